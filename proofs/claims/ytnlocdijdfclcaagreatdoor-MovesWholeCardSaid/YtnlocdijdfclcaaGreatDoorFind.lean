/-
  catalog.Find: its closure, itself.
  The chapter's example; awake.
  catalog.Load, catalog.Fits.
  exodusref14.Few.
  awake of chapter 15.
-/
import Derived.Test.YtnlocdijdfclcaaGreatDoorApp
import Derived.Test.YtnlocdijdfclcaaGreatDoorTree
import Derived.Test.YtnlocdijdfclcaaGreatDoorCatI
import Derived.Test.YtnlocdijdfclcaaGreatDoorSiteA
import Derived.Test.YtnlocdijdfclcaaGreatDoorCatZ
namespace Go.Proofs.YtnlocdijdfclcaaGreatDoor
open Go.RowKit Go.Lib Lex
set_option linter.unusedVariables false
set_option linter.unusedSimpArgs false

def Three3 (w : World) (b4 b5 b6 : Nat) (kd n : Int) (t : Bool) : Prop := Cells w b4 #[.int .i64 kd] ∧ Cells w b5 #[.int .i64 n] ∧ Cells w b6 #[.bool t]
theorem Three3.grow {w w' : World} {b4 b5 b6 : Nat} {kd n : Int} {t : Bool} (h : Three3 w b4 b5 b6 kd n t) (g : Gr w w') : Three3 w' b4 b5 b6 kd n t := ⟨h.1.grow g, h.2.1.grow g, h.2.2.grow g⟩
end Go.Proofs.YtnlocdijdfclcaaGreatDoor
namespace Go.Proofs.YtnlocdijdfclcaaGreatDoor
open Go.RowKit Go.Lib Lex
set_option linter.unusedVariables false
set_option linter.unusedSimpArgs false

def exM0 : Mdl := ⟨[[97], [98]], [[102]], [⟨[114], 1, 1⟩], [⟨[109, 49], 1, 10⟩, ⟨[109, 50], 1, 5⟩], [⟨1, 2, 3⟩], [], 0, 0, 0, 0, []⟩
def exM (p : Option Addr) : Mdl := { exM0 with items := [⟨[100, 98], 0, 1, 4, 2, 1, p, 1, [2]⟩], dark := 1, slots := 1 }
theorem nilL {α : Type} {enc : α → List Value} {sz : Nat} (w : World) : SlL w sz enc (.slice none 0 0) [] := SlL.nil w
def Off (p : Option Addr) (r : Nat) : Prop := ∀ a, p = some a → a.block ≠ r
theorem Off.none (r : Nat) : Off none r := fun a h => by cases h
theorem Off.at {b o r : Nat} {s : Option Nat} (h : b ≠ r) : Off (some ⟨b, o, s⟩) r := fun a e => by cases e; exact h
theorem SlL.upd {α : Type} {enc : α → List Value} {sz : Nat} {w w' : World} {p : Option Addr} {n c r : Nat} {l : List α} (h : SlL w sz enc (.slice p n c) l) (hu : Upd r w w') (ho : Off p r) : SlL w' sz enc (.slice p n c) l := by
 obtain ⟨h0, p', c', hv, h1, h2, h3⟩ := h
 cases hv
 refine ⟨h0, p, c, rfl, h1, h2, ?_⟩
 rcases h3 with h3 | ⟨b, o, hp, hc⟩
 ·exact .inl h3
 ·refine .inr ⟨b, o, hp, fun j u hj => ?_⟩
  have := hc j u hj
  unfold World.cell? at this ⊢
  rw [show (⟨b, o + j, none⟩ : Addr).block = b from rfl] at this ⊢
  rw [hu b (ho _ hp)]
  exact this
theorem MdlAt.upd {w w' : World} {P : Ptrs} {M : Mdl} {r : Nat} (h : MdlAt w P M) (hu : Upd r w w') (h0 : Off P.p0 r) (h1 : Off P.p1 r) (h2 : Off P.p2 r) (h3 : Off P.p3 r) (h4 : Off P.p4 r) (h5 : Off P.p5 r) (h6 : Off P.p6 r)
  (hi : ∀ x ∈ M.items, Off x.onP r) (hr : ∀ x ∈ M.rules, Off x.msP r) : MdlAt w' P M :=
 ⟨h.sites.upd hu h0, h.feeds.upd hu h1, h.racks.upd hu h2, h.machs.upd hu h3, h.links.upd hu h4, h.items.upd hu h5, h.rules.upd hu h6, fun x hx => SlL.upd (h.ons x hx) hu (hi x hx), fun x hx => SlL.upd (h.mss x hx) hu (hr x hx), h.big, h.onb, h.msb⟩
theorem Upd.trans {b : Nat} {w w' w'' : World} (h : Upd b w w') (k : Upd b w' w'') : Upd b w w'' := fun i hi => (k i hi).trans (h i hi)
theorem fill11 {a w : World} {b : Nat} {x0 x1 x2 x3 x4 x5 x6 x7 x8 x9 x10 : Value} (u0 u1 u2 u3 u4 u5 u6 u7 u8 u9 u10 : Value) (h : Cells w b #[x0, x1, x2, x3, x4, x5, x6, x7, x8, x9, x10]) (g : Gr a w) (hb : ¬ b < a.heap.size) :
  Gr a (((((((((((w.setCell ⟨b, 0, none⟩ u0).setCell ⟨b, 1, none⟩ u1).setCell ⟨b, 2, none⟩ u2).setCell ⟨b, 3, none⟩ u3).setCell ⟨b, 4, none⟩ u4).setCell ⟨b, 5, none⟩ u5).setCell ⟨b, 6, none⟩ u6).setCell ⟨b, 7, none⟩ u7).setCell ⟨b, 8, none⟩ u8).setCell ⟨b, 9, none⟩ u9).setCell ⟨b, 10, none⟩ u10) ∧ Cells (((((((((((w.setCell ⟨b, 0, none⟩ u0).setCell ⟨b, 1, none⟩ u1).setCell ⟨b, 2, none⟩ u2).setCell ⟨b, 3, none⟩ u3).setCell ⟨b, 4, none⟩ u4).setCell ⟨b, 5, none⟩ u5).setCell ⟨b, 6, none⟩ u6).setCell ⟨b, 7, none⟩ u7).setCell ⟨b, 8, none⟩ u8).setCell ⟨b, 9, none⟩ u9).setCell ⟨b, 10, none⟩ u10) b #[u0, u1, u2, u3, u4, u5, u6, u7, u8, u9, u10] ∧ Upd b w (((((((((((w.setCell ⟨b, 0, none⟩ u0).setCell ⟨b, 1, none⟩ u1).setCell ⟨b, 2, none⟩ u2).setCell ⟨b, 3, none⟩ u3).setCell ⟨b, 4, none⟩ u4).setCell ⟨b, 5, none⟩ u5).setCell ⟨b, 6, none⟩ u6).setCell ⟨b, 7, none⟩ u7).setCell ⟨b, 8, none⟩ u8).setCell ⟨b, 9, none⟩ u9).setCell ⟨b, 10, none⟩ u10) := by
 refine ⟨(Gr.set (Gr.set (Gr.set (Gr.set (Gr.set (Gr.set (Gr.set (Gr.set (Gr.set (Gr.set (Gr.set g hb (i := 0) u0) hb (i := 1) u1) hb (i := 2) u2) hb (i := 3) u3) hb (i := 4) u4) hb (i := 5) u5) hb (i := 6) u6) hb (i := 7) u7) hb (i := 8) u8) hb (i := 9) u9) hb (i := 10) u10), ?_, ?_⟩
 ·have := (((((((((((h.set 0 u0).set 1 u1).set 2 u2).set 3 u3).set 4 u4).set 5 u5).set 6 u6).set 7 u7).set 8 u8).set 9 u9).set 10 u10)
  simpa using this
 ·exact ((((((((((upd_set _ _ _ _).trans (upd_set _ _ _ _)).trans (upd_set _ _ _ _)).trans (upd_set _ _ _ _)).trans (upd_set _ _ _ _)).trans (upd_set _ _ _ _)).trans (upd_set _ _ _ _)).trans (upd_set _ _ _ _)).trans (upd_set _ _ _ _)).trans (upd_set _ _ _ _)).trans (upd_set _ _ _ _)
def exP (w : World) : Ptrs := ⟨some ⟨w.heap.size + 1, 0, none⟩, 2, some ⟨w.heap.size + 1 + 1, 0, none⟩, 1, some ⟨w.heap.size + 1 + 1 + 1, 0, none⟩, 1, some ⟨w.heap.size + 1 + 1 + 1 + 1, 0, none⟩, 2, some ⟨w.heap.size + 1 + 1 + 1 + 1 + 1, 0, none⟩, 1, none, 0, none, 0⟩
set_option maxRecDepth 100000 in
theorem law14_Example (w : World) :
  Calls Tryz.prog 77 #[] w (Ret w fun r w' => r = .agg (mcells (exP w) exM0) ∧ MdlAt w' (exP w) exM0) := by
 obtain ⟨W0, h0⟩ : ∃ W0, w.alloc (.cells #[.slice (some ⟨w.heap.size + 1, 0, none⟩) 2 2, .slice (some ⟨w.heap.size + 1 + 1, 0, none⟩) 1 1, .slice (some ⟨w.heap.size + 1 + 1 + 1, 0, none⟩) 1 1, .slice (some ⟨w.heap.size + 1 + 1 + 1 + 1, 0, none⟩) 2 2, .slice (some ⟨w.heap.size + 1 + 1 + 1 + 1 + 1, 0, none⟩) 1 1, .slice none 0 0, .int .i64 0, .int .i64 0, .int .i64 0, .int .i64 0, .slice none 0 0] 29) = W0 := ⟨_, rfl⟩
 obtain ⟨W1, h1⟩ : ∃ W1, W0.alloc (.cells #[.string ⟨#[97]⟩, .string ⟨#[98]⟩] 9) = W1 := ⟨_, rfl⟩
 obtain ⟨W2, h2⟩ : ∃ W2, W1.alloc (.cells #[.string ⟨#[102]⟩] 9) = W2 := ⟨_, rfl⟩
 obtain ⟨W3, h3⟩ : ∃ W3, W2.alloc (.cells #[.string ⟨#[114]⟩, .int .i64 1, .int .i64 1] 56) = W3 := ⟨_, rfl⟩
 obtain ⟨W4, h4⟩ : ∃ W4, W3.alloc (.cells #[.string ⟨#[109, 49]⟩, .int .i64 1, .int .i64 10, .string ⟨#[109, 50]⟩, .int .i64 1, .int .i64 5] 58) = W4 := ⟨_, rfl⟩
 obtain ⟨W5, h5⟩ : ∃ W5, W4.alloc (.cells #[.int .i64 1, .int .i64 2, .int .i64 3] 117) = W5 := ⟨_, rfl⟩
 have b0 := Cells.new w #[.slice (some ⟨w.heap.size + 1, 0, none⟩) 2 2, .slice (some ⟨w.heap.size + 1 + 1, 0, none⟩) 1 1, .slice (some ⟨w.heap.size + 1 + 1 + 1, 0, none⟩) 1 1, .slice (some ⟨w.heap.size + 1 + 1 + 1 + 1, 0, none⟩) 2 2, .slice (some ⟨w.heap.size + 1 + 1 + 1 + 1 + 1, 0, none⟩) 1 1, .slice none 0 0, .int .i64 0, .int .i64 0, .int .i64 0, .int .i64 0, .slice none 0 0] 29
 rw [h0] at b0
 have z0 : W0.heap.size = w.heap.size + 1 := by rw [← h0, World.size_alloc]
 have b1 := SlL.new W0 9 encS_len exM0.sites #[.string ⟨#[97]⟩, .string ⟨#[98]⟩] 2 rfl rfl (by decide)
 rw [h1, z0] at b1
 have z1 : W1.heap.size = w.heap.size + 1 + 1 := by rw [← h1, World.size_alloc, z0]
 have b2 := SlL.new W1 9 encS_len exM0.feeds #[.string ⟨#[102]⟩] 1 rfl rfl (by decide)
 rw [h2, z1] at b2
 have z2 : W2.heap.size = w.heap.size + 1 + 1 + 1 := by rw [← h2, World.size_alloc, z1]
 have b3 := SlL.new W2 56 encRack_len exM0.racks #[.string ⟨#[114]⟩, .int .i64 1, .int .i64 1] 1 rfl rfl (by decide)
 rw [h3, z2] at b3
 have z3 : W3.heap.size = w.heap.size + 1 + 1 + 1 + 1 := by rw [← h3, World.size_alloc, z2]
 have b4 := SlL.new W3 58 encMach_len exM0.machs #[.string ⟨#[109, 49]⟩, .int .i64 1, .int .i64 10, .string ⟨#[109, 50]⟩, .int .i64 1, .int .i64 5] 2 rfl rfl (by decide)
 rw [h4, z3] at b4
 have z4 : W4.heap.size = w.heap.size + 1 + 1 + 1 + 1 + 1 := by rw [← h4, World.size_alloc, z3]
 have b5 := SlL.new W4 117 encLink_len exM0.links #[.int .i64 1, .int .i64 2, .int .i64 3] 1 rfl rfl (by decide)
 rw [h5, z4] at b5
 have z5 : W5.heap.size = w.heap.size + 1 + 1 + 1 + 1 + 1 + 1 := by rw [← h5, World.size_alloc, z4]
 have H := Lib.hid (show Gr w W5 ∧ Cells W5 w.heap.size #[.slice (some ⟨w.heap.size + 1, 0, none⟩) 2 2, .slice (some ⟨w.heap.size + 1 + 1, 0, none⟩) 1 1, .slice (some ⟨w.heap.size + 1 + 1 + 1, 0, none⟩) 1 1, .slice (some ⟨w.heap.size + 1 + 1 + 1 + 1, 0, none⟩) 2 2, .slice (some ⟨w.heap.size + 1 + 1 + 1 + 1 + 1, 0, none⟩) 1 1, .slice none 0 0, .int .i64 0, .int .i64 0, .int .i64 0, .int .i64 0, .slice none 0 0] ∧ MdlAt W5 ⟨some ⟨w.heap.size + 1, 0, none⟩, 2, some ⟨w.heap.size + 1 + 1, 0, none⟩, 1, some ⟨w.heap.size + 1 + 1 + 1, 0, none⟩, 1, some ⟨w.heap.size + 1 + 1 + 1 + 1, 0, none⟩, 2, some ⟨w.heap.size + 1 + 1 + 1 + 1 + 1, 0, none⟩, 1, none, 0, none, 0⟩ exM0 from by
  have g5 := b5.1
  have g4 := b4.1.trans g5
  have g3 := b3.1.trans g4
  have g2 := b2.1.trans g3
  have g1 := b1.1.trans g2
  exact ⟨b0.1.trans g1, b0.2.grow g1, ⟨b1.2.grow g2, b2.2.grow g3, b3.2.grow g4, b4.2.grow g5, b5.2, nilL _, nilL _, fun x hx => (by cases hx), fun x hx => (by cases hx), by decide, fun x hx => (by cases hx), fun x hx => (by cases hx)⟩⟩)
 have HW := Lib.hid (show _ ∧ _ ∧ _ ∧ _ ∧ _ ∧ _ from ⟨h0, h1, h2, h3, h4, h5⟩)
 clear b0 b1 b2 b3 b4 b5 z0 z1 z2 z3 z4 z5 h0 h1 h2 h3 h4 h5
 go_enter Tryz.func77, Tryz.ntmps77
 go_wp2_with fail
 obtain ⟨h0, h1, h2, h3, h4, h5⟩ := HW.out
 rw [h0, h1, h2, h3, h4, h5]
 obtain ⟨g, t, hm⟩ := H.out
 clear h0 h1 h2 h3 h4 h5
 have y0 := t.at 0 rfl
 have y1 := t.at 1 rfl
 have y2 := t.at 2 rfl
 have y3 := t.at 3 rfl
 have y4 := t.at 4 rfl
 have y5 := t.at 5 rfl
 have y6 := t.at 6 rfl
 have y7 := t.at 7 rfl
 have y8 := t.at 8 rfl
 have y9 := t.at 9 rfl
 have y10 := t.at 10 rfl
 refine bodyPost_ret (by simp [results, Tryz.results77, go_sem, y0, y1, y2, y3, y4, y5, y6, y7, y8, y9, y10]; rfl) rfl ?_
 exact ⟨_, rfl, g, rfl, hm⟩
def OffP (P : Ptrs) (q : Option Addr) (n : Nat) : Prop := Off P.p0 n ∧ Off P.p1 n ∧ Off P.p2 n ∧ Off P.p3 n ∧ Off P.p4 n ∧ Off P.p5 n ∧ Off P.p6 n ∧ Off q n
set_option maxRecDepth 100000 in
set_option maxHeartbeats 1600000 in
theorem law15_ExampleOff (w : World) :
  Calls Tryz.prog 39 #[] w (Ret w fun r w' => ∃ P q, r = .agg (mcells P (exM q)) ∧ MdlAt w' P (exM q) ∧ ∀ n, n < w.heap.size → OffP P q n) := by
 go_enter Tryz.func39, Tryz.ntmps39
 go_wp2_with fail
 have b0 := Cells.new w #[.slice none 0 0, .slice none 0 0, .slice none 0 0, .slice none 0 0, .slice none 0 0, .slice none 0 0, .int .i64 0, .int .i64 0, .int .i64 0, .int .i64 0, .slice none 0 0] 29
 generalize w.alloc _ = W0 at b0 ⊢
 generalize hb0 : w.heap.size = r0 at b0 ⊢
 have HB0 := Lib.hid (show ¬ r0 < w.heap.size by omega)
 have HB1 := Lib.hid (show ∀ n, n < w.heap.size → n ≤ r0 from fun n hn => by omega)
 clear hb0
 have H0 := Lib.hid b0
 refine (law14_Example W0).mono ?_
 rintro _ W ⟨_, rfl, g1, rfl, hm⟩
 have T0w := Lib.hid (H0.out.2.lt)
 have G := Lib.hid (H0.out.1.trans g1)
 have T0 := Lib.hid (H0.out.2.grow g1)
 have HM := Lib.hid hm
 clear g1 hm b0 H0
 have hoff : ∀ k, k ≤ r0 → ∀ n, r0 < n → Off (some ⟨n, 0, none⟩) k := fun k hk n hn => Off.at (by omega)
 have hW0 := T0w.out
 have HO' := Lib.hid (show ∀ k, k ≤ r0 → Off (exP W0).p0 k ∧ Off (exP W0).p1 k ∧ Off (exP W0).p2 k ∧ Off (exP W0).p3 k ∧ Off (exP W0).p4 k ∧ Off (exP W0).p6 k from fun k hk =>
  ⟨hoff k hk _ (by omega), hoff k hk _ (by omega), hoff k hk _ (by omega), hoff k hk _ (by omega), hoff k hk _ (by omega), Off.none _⟩)
 clear hoff hW0
 generalize exP W0 = P at HM HO' ⊢
 have HO := Lib.hid (HO'.out r0 (Nat.le_refl _))
 obtain ⟨p0, c0, p1, c1, p2, c2, p3, c3, p4, c4, p5, c5, p6, c6⟩ := P
 have b1 := Cells.new W #[.slice p0 2 c0, .slice p1 1 c1, .slice p2 1 c2, .slice p3 2 c3, .slice p4 1 c4, .slice (some ⟨W.heap.size + 1 + 1, 0, none⟩) 1 1, .int .i64 1, .int .i64 1, .int .i64 0, .int .i64 0, .slice p6 0 c6] 29
 have b2 := SlL.new (W.alloc (.cells #[.slice p0 2 c0, .slice p1 1 c1, .slice p2 1 c2, .slice p3 2 c3, .slice p4 1 c4, .slice (some ⟨W.heap.size + 1 + 1, 0, none⟩) 1 1, .int .i64 1, .int .i64 1, .int .i64 0, .int .i64 0, .slice p6 0 c6] 29)) 3 encI_len [2] #[.int .i64 2] 1 rfl rfl (by decide)
 have b3 := SlL.new ((W.alloc (.cells #[.slice p0 2 c0, .slice p1 1 c1, .slice p2 1 c2, .slice p3 2 c3, .slice p4 1 c4, .slice (some ⟨W.heap.size + 1 + 1, 0, none⟩) 1 1, .int .i64 1, .int .i64 1, .int .i64 0, .int .i64 0, .slice p6 0 c6] 29)).alloc (.cells #[.int .i64 2] 3)) 61 encItem_len [(⟨[100, 98], 0, 1, 4, 2, 1, some ⟨W.heap.size + 1, 0, none⟩, 1, [2]⟩ : ItemM)] #[.string ⟨#[100, 98]⟩, .int .i64 0, .int .i64 1, .int .i64 4, .int .i64 2, .int .i64 1, .slice (some ⟨W.heap.size + 1, 0, none⟩) 1 1] 1 rfl rfl (by decide)
 simp only [World.size_alloc] at b2 b3
 have g3 : Gr W (((W.alloc (.cells #[.slice p0 2 c0, .slice p1 1 c1, .slice p2 1 c2, .slice p3 2 c3, .slice p4 1 c4, .slice (some ⟨W.heap.size + 1 + 1, 0, none⟩) 1 1, .int .i64 1, .int .i64 1, .int .i64 0, .int .i64 0, .slice p6 0 c6] 29)).alloc (.cells #[.int .i64 2] 3)).alloc (.cells #[.string ⟨#[100, 98]⟩, .int .i64 0, .int .i64 1, .int .i64 4, .int .i64 2, .int .i64 1, .slice (some ⟨W.heap.size + 1, 0, none⟩) 1 1] 61)) := (b1.1.trans b2.1).trans b3.1
 have T3 := T0.out.grow g3
 have d0 := T3.at 0 rfl
 have f0 := Cells.f T3 0
 have d1 := T3.at 1 rfl
 have f1 := Cells.f T3 1
 have d2 := T3.at 2 rfl
 have f2 := Cells.f T3 2
 have d3 := T3.at 3 rfl
 have f3 := Cells.f T3 3
 have d4 := T3.at 4 rfl
 have f4 := Cells.f T3 4
 have d5 := T3.at 5 rfl
 have f5 := Cells.f T3 5
 have d6 := T3.at 6 rfl
 have f6 := Cells.f T3 6
 have d7 := T3.at 7 rfl
 have f7 := Cells.f T3 7
 have d8 := T3.at 8 rfl
 have f8 := Cells.f T3 8
 have d9 := T3.at 9 rfl
 have f9 := Cells.f T3 9
 have d10 := T3.at 10 rfl
 have f10 := Cells.f T3 10
 have HV := Lib.hid (show ∃ V, V = (((W.alloc (.cells #[.slice p0 2 c0, .slice p1 1 c1, .slice p2 1 c2, .slice p3 2 c3, .slice p4 1 c4, .slice (some ⟨W.heap.size + 1 + 1, 0, none⟩) 1 1, .int .i64 1, .int .i64 1, .int .i64 0, .int .i64 0, .slice p6 0 c6] 29)).alloc (.cells #[.int .i64 2] 3)).alloc (.cells #[.string ⟨#[100, 98]⟩, .int .i64 0, .int .i64 1, .int .i64 4, .int .i64 2, .int .i64 1, .slice (some ⟨W.heap.size + 1, 0, none⟩) 1 1] 61)) ∧ Gr W V ∧ Cells V r0 #[.slice none 0 0, .slice none 0 0, .slice none 0 0, .slice none 0 0, .slice none 0 0, .slice none 0 0, .int .i64 0, .int .i64 0, .int .i64 0, .int .i64 0, .slice none 0 0] ∧ IntL V (.slice (some ⟨W.heap.size + 1, 0, none⟩) 1 1) [2] ∧ SlL V 7 encItem (.slice (some ⟨W.heap.size + 1 + 1, 0, none⟩) 1 1) [(⟨[100, 98], 0, 1, 4, 2, 1, some ⟨W.heap.size + 1, 0, none⟩, 1, [2]⟩ : ItemM)] from ⟨_, rfl, g3, T3, b2.2.grow b3.1, b3.2⟩)
 clear b1 b2 b3 g3 T3
 unfold mcells exM0
 go_wp2_with fail
 clear d0 d1 d2 d3 d4 d5 d6 d7 d8 d9 d10 f0 f1 f2 f3 f4 f5 f6 f7 f8 f9 f10
 obtain ⟨V, hV, gV, T3, hi, hs⟩ := HV.out
 rw [← hV]
 generalize hb2 : W.heap.size + 1 + 1 = b2 at hs ⊢
 generalize hb1 : W.heap.size + 1 = b1 at hi hs ⊢
 have hr0 := T0.out.lt
 have hmv : MdlAt V ⟨p0, c0, p1, c1, p2, c2, p3, c3, p4, c4, some ⟨b2, 0, none⟩, 1, p6, c6⟩ (exM (some ⟨b1, 0, none⟩)) :=
  ⟨(HM.out.grow gV).sites, (HM.out.grow gV).feeds, (HM.out.grow gV).racks, (HM.out.grow gV).machs, (HM.out.grow gV).links, hs, (HM.out.grow gV).rules, fun x hx => by
   obtain rfl : x = _ := List.mem_singleton.1 hx
   exact hi, fun x hx => (by cases hx), by unfold exM exM0; simp, fun x hx => by
   obtain rfl : x = _ := List.mem_singleton.1 hx
   simp, fun x hx => (by cases hx)⟩
 obtain ⟨g, T, u⟩ := fill11 (.slice p0 2 c0) (.slice p1 1 c1) (.slice p2 1 c2) (.slice p3 2 c3) (.slice p4 1 c4) (.slice (some ⟨b2, 0, none⟩) 1 1) (.int .i64 1) (.int .i64 1) (.int .i64 0) (.int .i64 0) (.slice p6 0 c6) T3 (G.out.trans gV) HB0.out
 have hmf := hmv.upd u HO.out.1 HO.out.2.1 HO.out.2.2.1 HO.out.2.2.2.1 HO.out.2.2.2.2.1 (Off.at (by omega)) HO.out.2.2.2.2.2 (fun x hx => by
   obtain rfl : x = _ := List.mem_singleton.1 hx
   exact Off.at (by omega)) (fun x hx => (by cases hx))
 clear hmv u
 generalize ((((((((((V.setCell _ _).setCell _ _).setCell _ _).setCell _ _).setCell _ _).setCell _ _).setCell _ _).setCell _ _).setCell _ _).setCell _ _).setCell _ _ = V' at T g hmf ⊢
 have y0 := T.at 0 rfl
 have y1 := T.at 1 rfl
 have y2 := T.at 2 rfl
 have y3 := T.at 3 rfl
 have y4 := T.at 4 rfl
 have y5 := T.at 5 rfl
 have y6 := T.at 6 rfl
 have y7 := T.at 7 rfl
 have y8 := T.at 8 rfl
 have y9 := T.at 9 rfl
 have y10 := T.at 10 rfl
 refine bodyPost_ret (by simp [results, Tryz.results39, go_sem, y0, y1, y2, y3, y4, y5, y6, y7, y8, y9, y10]; rfl) rfl ?_
 exact ⟨_, rfl, g, _, _, rfl, hmf, fun n hn => by
  obtain ⟨h0, h1, h2, h3, h4, h6⟩ := HO'.out n (HB1.out n hn)
  have := HB1.out n hn
  exact ⟨h0, h1, h2, h3, h4, Off.at (by omega), h6, Off.at (by omega)⟩⟩
end Go.Proofs.YtnlocdijdfclcaaGreatDoor
namespace Go.Proofs.YtnlocdijdfclcaaGreatDoor
open Go.RowKit Go.Lib Lex
set_option linter.unusedVariables false
set_option linter.unusedSimpArgs false

theorem contains_int (w : World) (p : Option Addr) (c : Nat) (l : List Int) (x : Int) (hl : IntL w (.slice p l.length c) l) (hb : l.length ≤ 1000000) :
  Calls Tryz.prog 79 #[.slice p l.length c, .int .i64 x] w fun e w' => e = .returned (.bool (l.contains x)) ∧ w' = w := by
 by_cases h0 : l.length = 0
 ·have hn : l = [] := List.eq_nil_of_length_eq_zero h0
  subst hn
  exact Tryz.slices_Contains_int_empty p c x w
 ·obtain ⟨b, o, rfl, hc⟩ := SlV.cells hl (by omega)
  have h := Tryz.slices_Contains_int b o l.length c l x w (Nat.le_refl _) (by omega) (int_cells hl rfl)
  rw [List.take_length] at h
  exact h
end Go.Proofs.YtnlocdijdfclcaaGreatDoor
namespace Go.Proofs.YtnlocdijdfclcaaGreatDoor
open Go.RowKit Go.Lib Lex
set_option linter.unusedVariables false
set_option linter.unusedSimpArgs false

set_option maxRecDepth 100000 in
set_option maxHeartbeats 1600000 in
theorem ref_Few (w : World) (P : Ptrs) (M : Mdl) (hm : MdlAt w P M) :
  Calls Tryz.prog 6 #[.agg (mcells P M)] w (Ret w fun r _ => Tells (Few M) r) := by
 by_cases h0 : (24 : Int) < (M.sites.length : Int)
 ·have HM := Lib.hid hm
  have B := Cells.new w (mcells P M) 29
  clear hm
  have m0 := mc0 B.2 _ (Gr.refl _)
  have m1 := mc1 B.2 _ (Gr.refl _)
  have m2 := mc2 B.2 _ (Gr.refl _)
  have m3 := mc3 B.2 _ (Gr.refl _)
  have m4 := mc4 B.2 _ (Gr.refl _)
  have m5 := mc5 B.2 _ (Gr.refl _)
  have m6 := mc6 B.2 _ (Gr.refl _)
  have m7 := mc7 B.2 _ (Gr.refl _)
  have m8 := mc8 B.2 _ (Gr.refl _)
  have m9 := mc9 B.2 _ (Gr.refl _)
  have m10 := mc10 B.2 _ (Gr.refl _)
  unfold mcells at B m0 m1 m2 m3 m4 m5 m6 m7 m8 m9 m10 ⊢
  go_enter Tryz.func6, Tryz.ntmps6
  go_wp2_with fail
  clear m0 m1 m2 m3 m4 m5 m6 m7 m8 m9 m10
  generalize w.heap.size = bm at B ⊢
  generalize w.alloc _ = W at B ⊢
  obtain ⟨g0, tm⟩ := B
  have TM := Lib.hid (show Cells W bm (mcells P M) from tm)
  have G := Lib.hid g0
  have HM := Lib.hid (HM.out.grow g0)
  clear g0 tm
  have m0 := mc0 TM.out _ (Gr.refl _)
  have m1 := mc1 TM.out _ (Gr.refl _)
  have m2 := mc2 TM.out _ (Gr.refl _)
  have m3 := mc3 TM.out _ (Gr.refl _)
  have m4 := mc4 TM.out _ (Gr.refl _)
  have m5 := mc5 TM.out _ (Gr.refl _)
  have m6 := mc6 TM.out _ (Gr.refl _)
  have m7 := mc7 TM.out _ (Gr.refl _)
  have m8 := mc8 TM.out _ (Gr.refl _)
  have m9 := mc9 TM.out _ (Gr.refl _)
  have m10 := mc10 TM.out _ (Gr.refl _)
  go_ret
  exact ⟨_, rfl, G.out, Tells.no fun h => by have := h.1; omega⟩
 by_cases h1 : (24 : Int) < (M.feeds.length : Int)
 ·have HM := Lib.hid hm
  have B := Cells.new w (mcells P M) 29
  clear hm
  have m0 := mc0 B.2 _ (Gr.refl _)
  have m1 := mc1 B.2 _ (Gr.refl _)
  have m2 := mc2 B.2 _ (Gr.refl _)
  have m3 := mc3 B.2 _ (Gr.refl _)
  have m4 := mc4 B.2 _ (Gr.refl _)
  have m5 := mc5 B.2 _ (Gr.refl _)
  have m6 := mc6 B.2 _ (Gr.refl _)
  have m7 := mc7 B.2 _ (Gr.refl _)
  have m8 := mc8 B.2 _ (Gr.refl _)
  have m9 := mc9 B.2 _ (Gr.refl _)
  have m10 := mc10 B.2 _ (Gr.refl _)
  unfold mcells at B m0 m1 m2 m3 m4 m5 m6 m7 m8 m9 m10 ⊢
  go_enter Tryz.func6, Tryz.ntmps6
  go_wp2_with fail
  clear m0 m1 m2 m3 m4 m5 m6 m7 m8 m9 m10
  generalize w.heap.size = bm at B ⊢
  generalize w.alloc _ = W at B ⊢
  obtain ⟨g0, tm⟩ := B
  have TM := Lib.hid (show Cells W bm (mcells P M) from tm)
  have G := Lib.hid g0
  have HM := Lib.hid (HM.out.grow g0)
  clear g0 tm
  have m0 := mc0 TM.out _ (Gr.refl _)
  have m1 := mc1 TM.out _ (Gr.refl _)
  have m2 := mc2 TM.out _ (Gr.refl _)
  have m3 := mc3 TM.out _ (Gr.refl _)
  have m4 := mc4 TM.out _ (Gr.refl _)
  have m5 := mc5 TM.out _ (Gr.refl _)
  have m6 := mc6 TM.out _ (Gr.refl _)
  have m7 := mc7 TM.out _ (Gr.refl _)
  have m8 := mc8 TM.out _ (Gr.refl _)
  have m9 := mc9 TM.out _ (Gr.refl _)
  have m10 := mc10 TM.out _ (Gr.refl _)
  go_ret
  exact ⟨_, rfl, G.out, Tells.no fun h => by have := h.1; omega⟩
 by_cases h2 : (24 : Int) < (M.racks.length : Int)
 ·have HM := Lib.hid hm
  have B := Cells.new w (mcells P M) 29
  clear hm
  have m0 := mc0 B.2 _ (Gr.refl _)
  have m1 := mc1 B.2 _ (Gr.refl _)
  have m2 := mc2 B.2 _ (Gr.refl _)
  have m3 := mc3 B.2 _ (Gr.refl _)
  have m4 := mc4 B.2 _ (Gr.refl _)
  have m5 := mc5 B.2 _ (Gr.refl _)
  have m6 := mc6 B.2 _ (Gr.refl _)
  have m7 := mc7 B.2 _ (Gr.refl _)
  have m8 := mc8 B.2 _ (Gr.refl _)
  have m9 := mc9 B.2 _ (Gr.refl _)
  have m10 := mc10 B.2 _ (Gr.refl _)
  unfold mcells at B m0 m1 m2 m3 m4 m5 m6 m7 m8 m9 m10 ⊢
  go_enter Tryz.func6, Tryz.ntmps6
  go_wp2_with fail
  clear m0 m1 m2 m3 m4 m5 m6 m7 m8 m9 m10
  generalize w.heap.size = bm at B ⊢
  generalize w.alloc _ = W at B ⊢
  obtain ⟨g0, tm⟩ := B
  have TM := Lib.hid (show Cells W bm (mcells P M) from tm)
  have G := Lib.hid g0
  have HM := Lib.hid (HM.out.grow g0)
  clear g0 tm
  have m0 := mc0 TM.out _ (Gr.refl _)
  have m1 := mc1 TM.out _ (Gr.refl _)
  have m2 := mc2 TM.out _ (Gr.refl _)
  have m3 := mc3 TM.out _ (Gr.refl _)
  have m4 := mc4 TM.out _ (Gr.refl _)
  have m5 := mc5 TM.out _ (Gr.refl _)
  have m6 := mc6 TM.out _ (Gr.refl _)
  have m7 := mc7 TM.out _ (Gr.refl _)
  have m8 := mc8 TM.out _ (Gr.refl _)
  have m9 := mc9 TM.out _ (Gr.refl _)
  have m10 := mc10 TM.out _ (Gr.refl _)
  go_ret
  exact ⟨_, rfl, G.out, Tells.no fun h => by have := h.1; omega⟩
 by_cases h3 : (24 : Int) < (M.machs.length : Int)
 ·have HM := Lib.hid hm
  have B := Cells.new w (mcells P M) 29
  clear hm
  have m0 := mc0 B.2 _ (Gr.refl _)
  have m1 := mc1 B.2 _ (Gr.refl _)
  have m2 := mc2 B.2 _ (Gr.refl _)
  have m3 := mc3 B.2 _ (Gr.refl _)
  have m4 := mc4 B.2 _ (Gr.refl _)
  have m5 := mc5 B.2 _ (Gr.refl _)
  have m6 := mc6 B.2 _ (Gr.refl _)
  have m7 := mc7 B.2 _ (Gr.refl _)
  have m8 := mc8 B.2 _ (Gr.refl _)
  have m9 := mc9 B.2 _ (Gr.refl _)
  have m10 := mc10 B.2 _ (Gr.refl _)
  unfold mcells at B m0 m1 m2 m3 m4 m5 m6 m7 m8 m9 m10 ⊢
  go_enter Tryz.func6, Tryz.ntmps6
  go_wp2_with fail
  clear m0 m1 m2 m3 m4 m5 m6 m7 m8 m9 m10
  generalize w.heap.size = bm at B ⊢
  generalize w.alloc _ = W at B ⊢
  obtain ⟨g0, tm⟩ := B
  have TM := Lib.hid (show Cells W bm (mcells P M) from tm)
  have G := Lib.hid g0
  have HM := Lib.hid (HM.out.grow g0)
  clear g0 tm
  have m0 := mc0 TM.out _ (Gr.refl _)
  have m1 := mc1 TM.out _ (Gr.refl _)
  have m2 := mc2 TM.out _ (Gr.refl _)
  have m3 := mc3 TM.out _ (Gr.refl _)
  have m4 := mc4 TM.out _ (Gr.refl _)
  have m5 := mc5 TM.out _ (Gr.refl _)
  have m6 := mc6 TM.out _ (Gr.refl _)
  have m7 := mc7 TM.out _ (Gr.refl _)
  have m8 := mc8 TM.out _ (Gr.refl _)
  have m9 := mc9 TM.out _ (Gr.refl _)
  have m10 := mc10 TM.out _ (Gr.refl _)
  go_ret
  exact ⟨_, rfl, G.out, Tells.no fun h => by have := h.1; omega⟩
 by_cases h4 : (24 : Int) < (M.links.length : Int)
 ·have HM := Lib.hid hm
  have B := Cells.new w (mcells P M) 29
  clear hm
  have m0 := mc0 B.2 _ (Gr.refl _)
  have m1 := mc1 B.2 _ (Gr.refl _)
  have m2 := mc2 B.2 _ (Gr.refl _)
  have m3 := mc3 B.2 _ (Gr.refl _)
  have m4 := mc4 B.2 _ (Gr.refl _)
  have m5 := mc5 B.2 _ (Gr.refl _)
  have m6 := mc6 B.2 _ (Gr.refl _)
  have m7 := mc7 B.2 _ (Gr.refl _)
  have m8 := mc8 B.2 _ (Gr.refl _)
  have m9 := mc9 B.2 _ (Gr.refl _)
  have m10 := mc10 B.2 _ (Gr.refl _)
  unfold mcells at B m0 m1 m2 m3 m4 m5 m6 m7 m8 m9 m10 ⊢
  go_enter Tryz.func6, Tryz.ntmps6
  go_wp2_with fail
  clear m0 m1 m2 m3 m4 m5 m6 m7 m8 m9 m10
  generalize w.heap.size = bm at B ⊢
  generalize w.alloc _ = W at B ⊢
  obtain ⟨g0, tm⟩ := B
  have TM := Lib.hid (show Cells W bm (mcells P M) from tm)
  have G := Lib.hid g0
  have HM := Lib.hid (HM.out.grow g0)
  clear g0 tm
  have m0 := mc0 TM.out _ (Gr.refl _)
  have m1 := mc1 TM.out _ (Gr.refl _)
  have m2 := mc2 TM.out _ (Gr.refl _)
  have m3 := mc3 TM.out _ (Gr.refl _)
  have m4 := mc4 TM.out _ (Gr.refl _)
  have m5 := mc5 TM.out _ (Gr.refl _)
  have m6 := mc6 TM.out _ (Gr.refl _)
  have m7 := mc7 TM.out _ (Gr.refl _)
  have m8 := mc8 TM.out _ (Gr.refl _)
  have m9 := mc9 TM.out _ (Gr.refl _)
  have m10 := mc10 TM.out _ (Gr.refl _)
  go_ret
  exact ⟨_, rfl, G.out, Tells.no fun h => by have := h.1; omega⟩
 by_cases h5 : (24 : Int) < (M.items.length : Int)
 ·have HM := Lib.hid hm
  have B := Cells.new w (mcells P M) 29
  clear hm
  have m0 := mc0 B.2 _ (Gr.refl _)
  have m1 := mc1 B.2 _ (Gr.refl _)
  have m2 := mc2 B.2 _ (Gr.refl _)
  have m3 := mc3 B.2 _ (Gr.refl _)
  have m4 := mc4 B.2 _ (Gr.refl _)
  have m5 := mc5 B.2 _ (Gr.refl _)
  have m6 := mc6 B.2 _ (Gr.refl _)
  have m7 := mc7 B.2 _ (Gr.refl _)
  have m8 := mc8 B.2 _ (Gr.refl _)
  have m9 := mc9 B.2 _ (Gr.refl _)
  have m10 := mc10 B.2 _ (Gr.refl _)
  unfold mcells at B m0 m1 m2 m3 m4 m5 m6 m7 m8 m9 m10 ⊢
  go_enter Tryz.func6, Tryz.ntmps6
  go_wp2_with fail
  clear m0 m1 m2 m3 m4 m5 m6 m7 m8 m9 m10
  generalize w.heap.size = bm at B ⊢
  generalize w.alloc _ = W at B ⊢
  obtain ⟨g0, tm⟩ := B
  have TM := Lib.hid (show Cells W bm (mcells P M) from tm)
  have G := Lib.hid g0
  have HM := Lib.hid (HM.out.grow g0)
  clear g0 tm
  have m0 := mc0 TM.out _ (Gr.refl _)
  have m1 := mc1 TM.out _ (Gr.refl _)
  have m2 := mc2 TM.out _ (Gr.refl _)
  have m3 := mc3 TM.out _ (Gr.refl _)
  have m4 := mc4 TM.out _ (Gr.refl _)
  have m5 := mc5 TM.out _ (Gr.refl _)
  have m6 := mc6 TM.out _ (Gr.refl _)
  have m7 := mc7 TM.out _ (Gr.refl _)
  have m8 := mc8 TM.out _ (Gr.refl _)
  have m9 := mc9 TM.out _ (Gr.refl _)
  have m10 := mc10 TM.out _ (Gr.refl _)
  go_ret
  exact ⟨_, rfl, G.out, Tells.no fun h => by have := h.1; omega⟩
 by_cases h6 : (48 : Int) < (M.rules.length : Int)
 ·have HM := Lib.hid hm
  have B := Cells.new w (mcells P M) 29
  clear hm
  have m0 := mc0 B.2 _ (Gr.refl _)
  have m1 := mc1 B.2 _ (Gr.refl _)
  have m2 := mc2 B.2 _ (Gr.refl _)
  have m3 := mc3 B.2 _ (Gr.refl _)
  have m4 := mc4 B.2 _ (Gr.refl _)
  have m5 := mc5 B.2 _ (Gr.refl _)
  have m6 := mc6 B.2 _ (Gr.refl _)
  have m7 := mc7 B.2 _ (Gr.refl _)
  have m8 := mc8 B.2 _ (Gr.refl _)
  have m9 := mc9 B.2 _ (Gr.refl _)
  have m10 := mc10 B.2 _ (Gr.refl _)
  unfold mcells at B m0 m1 m2 m3 m4 m5 m6 m7 m8 m9 m10 ⊢
  go_enter Tryz.func6, Tryz.ntmps6
  go_wp2_with fail
  clear m0 m1 m2 m3 m4 m5 m6 m7 m8 m9 m10
  generalize w.heap.size = bm at B ⊢
  generalize w.alloc _ = W at B ⊢
  obtain ⟨g0, tm⟩ := B
  have TM := Lib.hid (show Cells W bm (mcells P M) from tm)
  have G := Lib.hid g0
  have HM := Lib.hid (HM.out.grow g0)
  clear g0 tm
  have m0 := mc0 TM.out _ (Gr.refl _)
  have m1 := mc1 TM.out _ (Gr.refl _)
  have m2 := mc2 TM.out _ (Gr.refl _)
  have m3 := mc3 TM.out _ (Gr.refl _)
  have m4 := mc4 TM.out _ (Gr.refl _)
  have m5 := mc5 TM.out _ (Gr.refl _)
  have m6 := mc6 TM.out _ (Gr.refl _)
  have m7 := mc7 TM.out _ (Gr.refl _)
  have m8 := mc8 TM.out _ (Gr.refl _)
  have m9 := mc9 TM.out _ (Gr.refl _)
  have m10 := mc10 TM.out _ (Gr.refl _)
  go_ret
  exact ⟨_, rfl, G.out, Tells.no fun h => by have := h.1; omega⟩
 have HM := Lib.hid hm
 have B := Cells.new w (mcells P M) 29
 clear hm
 have m0 := mc0 B.2 _ (Gr.refl _)
 have m1 := mc1 B.2 _ (Gr.refl _)
 have m2 := mc2 B.2 _ (Gr.refl _)
 have m3 := mc3 B.2 _ (Gr.refl _)
 have m4 := mc4 B.2 _ (Gr.refl _)
 have m5 := mc5 B.2 _ (Gr.refl _)
 have m6 := mc6 B.2 _ (Gr.refl _)
 have m7 := mc7 B.2 _ (Gr.refl _)
 have m8 := mc8 B.2 _ (Gr.refl _)
 have m9 := mc9 B.2 _ (Gr.refl _)
 have m10 := mc10 B.2 _ (Gr.refl _)
 unfold mcells at B m0 m1 m2 m3 m4 m5 m6 m7 m8 m9 m10 ⊢
 go_enter Tryz.func6, Tryz.ntmps6
 go_wp2_with fail
 clear m0 m1 m2 m3 m4 m5 m6 m7 m8 m9 m10
 generalize w.heap.size = bm at B ⊢
 generalize w.alloc _ = W at B ⊢
 obtain ⟨g0, tm⟩ := B
 have TM := Lib.hid (show Cells W bm (mcells P M) from tm)
 have G := Lib.hid g0
 have HM := Lib.hid (HM.out.grow g0)
 clear g0 tm
 have m0 := mc0 TM.out _ (Gr.refl _)
 have m1 := mc1 TM.out _ (Gr.refl _)
 have m2 := mc2 TM.out _ (Gr.refl _)
 have m3 := mc3 TM.out _ (Gr.refl _)
 have m4 := mc4 TM.out _ (Gr.refl _)
 have m5 := mc5 TM.out _ (Gr.refl _)
 have m6 := mc6 TM.out _ (Gr.refl _)
 have m7 := mc7 TM.out _ (Gr.refl _)
 have m8 := mc8 TM.out _ (Gr.refl _)
 have m9 := mc9 TM.out _ (Gr.refl _)
 have m10 := mc10 TM.out _ (Gr.refl _)
 clear m0 m1 m2 m3 m4 m5 m6 m7 m8 m9 m10
 have HQ := Lib.hid (show (0 : Int) ≤ 100 ↔ True by simp)
 have HL := Lib.hid (show M.sites.length ≤ 24 ∧ M.feeds.length ≤ 24 ∧ M.racks.length ≤ 24 ∧ M.machs.length ≤ 24 ∧ M.links.length ≤ 24 ∧ M.items.length ≤ 24 ∧ M.rules.length ≤ 48 by omega)
 clear h0 h1 h2 h3 h4 h5 h6
 go_loopw [3, 4] (fun v i w1 => ∃ (k : Nat) (n : Int), v = .int .i64 n ∧ i = .int .i64 (k : Int) ∧ k ≤ M.sites.length ∧ (n ≤ 100 ↔ (True) ∧ ∀ j x, j < k → M.sites[j]? = some x → x.length ≤ 100) ∧ Gr W w1) (fun _ i _ => M.sites.length - (RowKit.intOf i).toNat)
 case atStart => exact ⟨0, _, rfl, rfl, Nat.zero_le _, ⟨fun h => ⟨HQ.out.1 h, fun j x hj => by omega⟩, fun h => HQ.out.2 h.1⟩, Gr.refl _⟩
 case round =>
  clear HQ
  obtain ⟨k, n, rfl, rfl, hk, hq, hg⟩ := hrel
  have HP := Lib.hid hq
  have G := Lib.hid (G.out.trans hg)
  have HM := Lib.hid (HM.out.grow hg)
  have TM := Lib.hid (TM.out.grow hg)
  have GL := Lib.hid hg
  clear hq hg
  have hbig := HM.out.big
  by_cases hlt : k < M.sites.length
  ·have hlt' : (k : Int) < (M.sites.length : Int) := by omega
   obtain ⟨b, o, x, hpp, hx, hc⟩ := str_at HM.out.sites rfl hlt
   have HX := Lib.hid hx
   have m := mc0 TM.out _ (Gr.refl _)
   have mp := mc0 TM.out
   rw [hpp] at m mp
   have c0 := hc _ (Gr.refl _)
   clear hx hpp hc mp
   go_wp2_with fail
   have GZ := GL
   refine ⟨⟨k + 1, _, rfl, by go_num, by omega, ⟨fun h => ⟨(HP.out.1 (by omega)).1, fun j y hj hy => ?_⟩, fun h => ?_⟩, GZ.out⟩, by simp [RowKit.intOf]; omega⟩
   ·rcases Nat.lt_or_ge j k with hjk | hjk
    ·exact (HP.out.1 (by omega)).2 j y hjk hy
    ·obtain rfl : j = k := by omega
     have e : y = x := by have := hy.symm.trans HX.out; simpa using this
     subst e
     omega
   ·have h1 := HP.out.2 ⟨h.1, fun j y hj hy => h.2 j y (by omega) hy⟩
    have h2 := h.2 k x (by omega) HX.out
    omega
  ·obtain rfl : k = M.sites.length := by omega
   have m := mc0 TM.out _ (Gr.refl _)
   have HQ := Lib.hid (show n ≤ 100 ↔ ((True) ∧ ∀ x ∈ M.sites, x.length ≤ 100) from HP.out.trans ⟨fun h => ⟨h.1, fun x hx => by
    obtain ⟨i, hi, e⟩ := List.getElem_of_mem hx
    exact h.2 i x hi (by rw [List.getElem?_eq_getElem hi, e])⟩, fun h => ⟨h.1, fun j x _ hx => h.2 x (List.mem_of_getElem? hx)⟩⟩)
   clear HP
   go_wp2_with fail
   clear m
   go_loopw [3, 5] (fun v i w1 => ∃ (k : Nat) (n : Int), v = .int .i64 n ∧ i = .int .i64 (k : Int) ∧ k ≤ M.feeds.length ∧ (n ≤ 100 ↔ ((True) ∧ ∀ x ∈ M.sites, x.length ≤ 100) ∧ ∀ j x, j < k → M.feeds[j]? = some x → x.length ≤ 100) ∧ Gr wr w1) (fun _ i _ => M.feeds.length - (RowKit.intOf i).toNat)
   case atStart => exact ⟨0, _, rfl, rfl, Nat.zero_le _, ⟨fun h => ⟨HQ.out.1 h, fun j x hj => by omega⟩, fun h => HQ.out.2 h.1⟩, Gr.refl _⟩
   case round =>
    clear HQ
    obtain ⟨k, n, rfl, rfl, hk, hq, hg⟩ := hrel
    have HP := Lib.hid hq
    have G := Lib.hid (G.out.trans hg)
    have HM := Lib.hid (HM.out.grow hg)
    have TM := Lib.hid (TM.out.grow hg)
    have GL := Lib.hid hg
    clear hq hg
    have hbig := HM.out.big
    by_cases hlt : k < M.feeds.length
    ·have hlt' : (k : Int) < (M.feeds.length : Int) := by omega
     obtain ⟨b, o, x, hpp, hx, hc⟩ := str_at HM.out.feeds rfl hlt
     have HX := Lib.hid hx
     have m := mc1 TM.out _ (Gr.refl _)
     have mp := mc1 TM.out
     rw [hpp] at m mp
     have c0 := hc _ (Gr.refl _)
     clear hx hpp hc mp
     go_wp2_with fail
     have GZ := GL
     refine ⟨⟨k + 1, _, rfl, by go_num, by omega, ⟨fun h => ⟨(HP.out.1 (by omega)).1, fun j y hj hy => ?_⟩, fun h => ?_⟩, GZ.out⟩, by simp [RowKit.intOf]; omega⟩
     ·rcases Nat.lt_or_ge j k with hjk | hjk
      ·exact (HP.out.1 (by omega)).2 j y hjk hy
      ·obtain rfl : j = k := by omega
       have e : y = x := by have := hy.symm.trans HX.out; simpa using this
       subst e
       omega
     ·have h1 := HP.out.2 ⟨h.1, fun j y hj hy => h.2 j y (by omega) hy⟩
      have h2 := h.2 k x (by omega) HX.out
      omega
    ·obtain rfl : k = M.feeds.length := by omega
     have m := mc1 TM.out _ (Gr.refl _)
     have HQ := Lib.hid (show n ≤ 100 ↔ (((True) ∧ ∀ x ∈ M.sites, x.length ≤ 100) ∧ ∀ x ∈ M.feeds, x.length ≤ 100) from HP.out.trans ⟨fun h => ⟨h.1, fun x hx => by
      obtain ⟨i, hi, e⟩ := List.getElem_of_mem hx
      exact h.2 i x hi (by rw [List.getElem?_eq_getElem hi, e])⟩, fun h => ⟨h.1, fun j x _ hx => h.2 x (List.mem_of_getElem? hx)⟩⟩)
     clear HP
     go_wp2_with fail
     clear m
     go_loopw [3, 6] (fun v i w1 => ∃ (k : Nat) (n : Int), v = .int .i64 n ∧ i = .int .i64 (k : Int) ∧ k ≤ M.racks.length ∧ (n ≤ 100 ↔ (((True) ∧ ∀ x ∈ M.sites, x.length ≤ 100) ∧ ∀ x ∈ M.feeds, x.length ≤ 100) ∧ ∀ j x, j < k → M.racks[j]? = some x → x.name.length ≤ 100) ∧ Gr wr w1) (fun _ i _ => M.racks.length - (RowKit.intOf i).toNat)
     case atStart => exact ⟨0, _, rfl, rfl, Nat.zero_le _, ⟨fun h => ⟨HQ.out.1 h, fun j x hj => by omega⟩, fun h => HQ.out.2 h.1⟩, Gr.refl _⟩
     case round =>
      clear HQ
      obtain ⟨k, n, rfl, rfl, hk, hq, hg⟩ := hrel
      have HP := Lib.hid hq
      have G := Lib.hid (G.out.trans hg)
      have HM := Lib.hid (HM.out.grow hg)
      have TM := Lib.hid (TM.out.grow hg)
      have GL := Lib.hid hg
      clear hq hg
      have hbig := HM.out.big
      by_cases hlt : k < M.racks.length
      ·have hlt' : (k : Int) < (M.racks.length : Int) := by omega
       obtain ⟨b, o, x, hpp, hx, hc⟩ := rack_at HM.out.racks rfl hlt
       have HX := Lib.hid hx
       have m := mc2 TM.out _ (Gr.refl _)
       have mp := mc2 TM.out
       rw [hpp] at m mp
       have c0 := (hc _ (Gr.refl _)).1
       clear hx hpp hc mp
       go_wp2_with fail
       have GZ := GL
       refine ⟨⟨k + 1, _, rfl, by go_num, by omega, ⟨fun h => ⟨(HP.out.1 (by omega)).1, fun j y hj hy => ?_⟩, fun h => ?_⟩, GZ.out⟩, by simp [RowKit.intOf]; omega⟩
       ·rcases Nat.lt_or_ge j k with hjk | hjk
        ·exact (HP.out.1 (by omega)).2 j y hjk hy
        ·obtain rfl : j = k := by omega
         have e : y = x := by have := hy.symm.trans HX.out; simpa using this
         subst e
         omega
       ·have h1 := HP.out.2 ⟨h.1, fun j y hj hy => h.2 j y (by omega) hy⟩
        have h2 := h.2 k x (by omega) HX.out
        omega
      ·obtain rfl : k = M.racks.length := by omega
       have m := mc2 TM.out _ (Gr.refl _)
       have HQ := Lib.hid (show n ≤ 100 ↔ ((((True) ∧ ∀ x ∈ M.sites, x.length ≤ 100) ∧ ∀ x ∈ M.feeds, x.length ≤ 100) ∧ ∀ x ∈ M.racks, x.name.length ≤ 100) from HP.out.trans ⟨fun h => ⟨h.1, fun x hx => by
        obtain ⟨i, hi, e⟩ := List.getElem_of_mem hx
        exact h.2 i x hi (by rw [List.getElem?_eq_getElem hi, e])⟩, fun h => ⟨h.1, fun j x _ hx => h.2 x (List.mem_of_getElem? hx)⟩⟩)
       clear HP
       go_wp2_with fail
       clear m
       go_loopw [3, 7] (fun v i w1 => ∃ (k : Nat) (n : Int), v = .int .i64 n ∧ i = .int .i64 (k : Int) ∧ k ≤ M.machs.length ∧ (n ≤ 100 ↔ ((((True) ∧ ∀ x ∈ M.sites, x.length ≤ 100) ∧ ∀ x ∈ M.feeds, x.length ≤ 100) ∧ ∀ x ∈ M.racks, x.name.length ≤ 100) ∧ ∀ j x, j < k → M.machs[j]? = some x → x.name.length ≤ 100) ∧ Gr wr w1) (fun _ i _ => M.machs.length - (RowKit.intOf i).toNat)
       case atStart => exact ⟨0, _, rfl, rfl, Nat.zero_le _, ⟨fun h => ⟨HQ.out.1 h, fun j x hj => by omega⟩, fun h => HQ.out.2 h.1⟩, Gr.refl _⟩
       case round =>
        clear HQ
        obtain ⟨k, n, rfl, rfl, hk, hq, hg⟩ := hrel
        have HP := Lib.hid hq
        have G := Lib.hid (G.out.trans hg)
        have HM := Lib.hid (HM.out.grow hg)
        have TM := Lib.hid (TM.out.grow hg)
        have GL := Lib.hid hg
        clear hq hg
        have hbig := HM.out.big
        by_cases hlt : k < M.machs.length
        ·have hlt' : (k : Int) < (M.machs.length : Int) := by omega
         obtain ⟨b, o, x, hpp, hx, hc⟩ := mach_at HM.out.machs rfl hlt
         have HX := Lib.hid hx
         have m := mc3 TM.out _ (Gr.refl _)
         have mp := mc3 TM.out
         rw [hpp] at m mp
         have c0 := (hc _ (Gr.refl _)).1
         clear hx hpp hc mp
         go_wp2_with fail
         have GZ := GL
         refine ⟨⟨k + 1, _, rfl, by go_num, by omega, ⟨fun h => ⟨(HP.out.1 (by omega)).1, fun j y hj hy => ?_⟩, fun h => ?_⟩, GZ.out⟩, by simp [RowKit.intOf]; omega⟩
         ·rcases Nat.lt_or_ge j k with hjk | hjk
          ·exact (HP.out.1 (by omega)).2 j y hjk hy
          ·obtain rfl : j = k := by omega
           have e : y = x := by have := hy.symm.trans HX.out; simpa using this
           subst e
           omega
         ·have h1 := HP.out.2 ⟨h.1, fun j y hj hy => h.2 j y (by omega) hy⟩
          have h2 := h.2 k x (by omega) HX.out
          omega
        ·obtain rfl : k = M.machs.length := by omega
         have m := mc3 TM.out _ (Gr.refl _)
         have HQ := Lib.hid (show n ≤ 100 ↔ (((((True) ∧ ∀ x ∈ M.sites, x.length ≤ 100) ∧ ∀ x ∈ M.feeds, x.length ≤ 100) ∧ ∀ x ∈ M.racks, x.name.length ≤ 100) ∧ ∀ x ∈ M.machs, x.name.length ≤ 100) from HP.out.trans ⟨fun h => ⟨h.1, fun x hx => by
          obtain ⟨i, hi, e⟩ := List.getElem_of_mem hx
          exact h.2 i x hi (by rw [List.getElem?_eq_getElem hi, e])⟩, fun h => ⟨h.1, fun j x _ hx => h.2 x (List.mem_of_getElem? hx)⟩⟩)
         clear HP
         go_wp2_with fail
         clear m
         go_loopw [3, 8] (fun v i w1 => ∃ (k : Nat) (n : Int), v = .int .i64 n ∧ i = .int .i64 (k : Int) ∧ k ≤ M.items.length ∧ (n ≤ 100 ↔ (((((True) ∧ ∀ x ∈ M.sites, x.length ≤ 100) ∧ ∀ x ∈ M.feeds, x.length ≤ 100) ∧ ∀ x ∈ M.racks, x.name.length ≤ 100) ∧ ∀ x ∈ M.machs, x.name.length ≤ 100) ∧ ∀ j x, j < k → M.items[j]? = some x → (x.name.length ≤ 100 ∧ x.on.length ≤ 25)) ∧ Gr wr w1) (fun _ i _ => M.items.length - (RowKit.intOf i).toNat)
         case atStart => exact ⟨0, _, rfl, rfl, Nat.zero_le _, ⟨fun h => ⟨HQ.out.1 h, fun j x hj => by omega⟩, fun h => HQ.out.2 h.1⟩, Gr.refl _⟩
         case round =>
          clear HQ
          obtain ⟨k, n, rfl, rfl, hk, hq, hg⟩ := hrel
          have HP := Lib.hid hq
          have G := Lib.hid (G.out.trans hg)
          have HM := Lib.hid (HM.out.grow hg)
          have TM := Lib.hid (TM.out.grow hg)
          have GL := Lib.hid hg
          clear hq hg
          have hbig := HM.out.big
          by_cases hlt : k < M.items.length
          ·have hlt' : (k : Int) < (M.items.length : Int) := by omega
           obtain ⟨b, o, x, hpp, hx, hc⟩ := item_at HM.out.items rfl hlt
           have HX := Lib.hid hx
           have m := mc5 TM.out _ (Gr.refl _)
           have mp := mc5 TM.out
           rw [hpp] at m mp
           have c0 := fun w' g => (hc w' g).1
           have c6 := fun w' g => (hc w' g).2.2.2.2.2.2
           have hob := HM.out.onb x (List.mem_of_getElem? hx)
           have hw4 : IntKind.i64.wrap (4 * (x.on.length : Int)) = 4 * (x.on.length : Int) := by rw [IntKind.wrap_i64]; omega
           clear hx hpp hc
           go_wp2_with fail
           clear m
           have g0 : Gr wr wr.drew := (Gr.refl _).drew
           refine wp_region_fast [(0, true), (1, true), (2, true), (3, true), (4, true), (5, true), (6, true), (7, true), (8, true), (9, true), (10, true), (11, true), (12, true), (13, true), (14, true), (15, true), (16, true), (17, true)] (by kernel_rfl) (by kernel_rfl) rfl (by kernel_rfl) (fun _ _ d _ _ h => by cases d <;> exact h) ?_
           repeat (refine wpE_readB (v := ?_) g0 rfl rfl (fun w' hg => ?_) (fun K hK => ?_); rotate_left; (go_simp; rfl); go_simp; refine hK _ _ ?_; clear hK K)
           refine wpE_nil ?_
           go_wp2_with fail
           have GZ := Lib.hid (GL.out.trans g0)
           refine ⟨⟨k + 1, _, rfl, by go_num, by omega, ⟨fun h => ⟨(HP.out.1 (by omega)).1, fun j y hj hy => ?_⟩, fun h => ?_⟩, GZ.out⟩, by simp [RowKit.intOf]; omega⟩
           ·rcases Nat.lt_or_ge j k with hjk | hjk
            ·exact (HP.out.1 (by omega)).2 j y hjk hy
            ·obtain rfl : j = k := by omega
             have e : y = x := by have := hy.symm.trans HX.out; simpa using this
             subst e
             omega
           ·have h1 := HP.out.2 ⟨h.1, fun j y hj hy => h.2 j y (by omega) hy⟩
            have h2 := h.2 k x (by omega) HX.out
            omega
          ·obtain rfl : k = M.items.length := by omega
           have m := mc5 TM.out _ (Gr.refl _)
           have HQ := Lib.hid (show n ≤ 100 ↔ ((((((True) ∧ ∀ x ∈ M.sites, x.length ≤ 100) ∧ ∀ x ∈ M.feeds, x.length ≤ 100) ∧ ∀ x ∈ M.racks, x.name.length ≤ 100) ∧ ∀ x ∈ M.machs, x.name.length ≤ 100) ∧ ∀ x ∈ M.items, (x.name.length ≤ 100 ∧ x.on.length ≤ 25)) from HP.out.trans ⟨fun h => ⟨h.1, fun x hx => by
            obtain ⟨i, hi, e⟩ := List.getElem_of_mem hx
            exact h.2 i x hi (by rw [List.getElem?_eq_getElem hi, e])⟩, fun h => ⟨h.1, fun j x _ hx => h.2 x (List.mem_of_getElem? hx)⟩⟩)
           clear HP
           go_wp2_with fail
           clear m
           go_loopw [3, 9] (fun v i w1 => ∃ (k : Nat) (n : Int), v = .int .i64 n ∧ i = .int .i64 (k : Int) ∧ k ≤ M.rules.length ∧ (n ≤ 100 ↔ ((((((True) ∧ ∀ x ∈ M.sites, x.length ≤ 100) ∧ ∀ x ∈ M.feeds, x.length ≤ 100) ∧ ∀ x ∈ M.racks, x.name.length ≤ 100) ∧ ∀ x ∈ M.machs, x.name.length ≤ 100) ∧ ∀ x ∈ M.items, (x.name.length ≤ 100 ∧ x.on.length ≤ 25)) ∧ ∀ j x, j < k → M.rules[j]? = some x → x.ms.length ≤ 25) ∧ Gr wr w1) (fun _ i _ => M.rules.length - (RowKit.intOf i).toNat)
           case atStart => exact ⟨0, _, rfl, rfl, Nat.zero_le _, ⟨fun h => ⟨HQ.out.1 h, fun j x hj => by omega⟩, fun h => HQ.out.2 h.1⟩, Gr.refl _⟩
           case round =>
            clear HQ
            obtain ⟨k, n, rfl, rfl, hk, hq, hg⟩ := hrel
            have HP := Lib.hid hq
            have G := Lib.hid (G.out.trans hg)
            have HM := Lib.hid (HM.out.grow hg)
            have TM := Lib.hid (TM.out.grow hg)
            have GL := Lib.hid hg
            clear hq hg
            have hbig := HM.out.big
            by_cases hlt : k < M.rules.length
            ·have hlt' : (k : Int) < (M.rules.length : Int) := by omega
             obtain ⟨b, o, x, hpp, hx, hc⟩ := rule_at HM.out.rules rfl hlt
             have HX := Lib.hid hx
             have m := mc10 TM.out _ (Gr.refl _)
             have mp := mc10 TM.out
             rw [hpp] at m mp
             have c6 := (hc _ (Gr.refl _)).2.2.2.2.2.2
             have hob := HM.out.msb x (List.mem_of_getElem? hx)
             have hw4 : IntKind.i64.wrap (4 * (x.ms.length : Int)) = 4 * (x.ms.length : Int) := by rw [IntKind.wrap_i64]; omega
             clear hx hpp hc mp
             go_wp2_with fail
             have GZ := GL
             refine ⟨⟨k + 1, _, rfl, by go_num, by omega, ⟨fun h => ⟨(HP.out.1 (by omega)).1, fun j y hj hy => ?_⟩, fun h => ?_⟩, GZ.out⟩, by simp [RowKit.intOf]; omega⟩
             ·rcases Nat.lt_or_ge j k with hjk | hjk
              ·exact (HP.out.1 (by omega)).2 j y hjk hy
              ·obtain rfl : j = k := by omega
               have e : y = x := by have := hy.symm.trans HX.out; simpa using this
               subst e
               omega
             ·have h1 := HP.out.2 ⟨h.1, fun j y hj hy => h.2 j y (by omega) hy⟩
              have h2 := h.2 k x (by omega) HX.out
              omega
            ·obtain rfl : k = M.rules.length := by omega
             have m := mc10 TM.out _ (Gr.refl _)
             have HQ := Lib.hid (show n ≤ 100 ↔ (((((((True) ∧ ∀ x ∈ M.sites, x.length ≤ 100) ∧ ∀ x ∈ M.feeds, x.length ≤ 100) ∧ ∀ x ∈ M.racks, x.name.length ≤ 100) ∧ ∀ x ∈ M.machs, x.name.length ≤ 100) ∧ ∀ x ∈ M.items, (x.name.length ≤ 100 ∧ x.on.length ≤ 25)) ∧ ∀ x ∈ M.rules, x.ms.length ≤ 25) from HP.out.trans ⟨fun h => ⟨h.1, fun x hx => by
              obtain ⟨i, hi, e⟩ := List.getElem_of_mem hx
              exact h.2 i x hi (by rw [List.getElem?_eq_getElem hi, e])⟩, fun h => ⟨h.1, fun j x _ hx => h.2 x (List.mem_of_getElem? hx)⟩⟩)
             clear HP
             go_wp2_with fail
             clear m
             go_ret
             have q := HQ.out
             have l := HL.out
             by_cases hn : n ≤ 100
             ·obtain ⟨⟨⟨⟨⟨⟨_, q1⟩, q2⟩, q3⟩, q4⟩, q5⟩, q6⟩ := q.1 hn
              exact ⟨_, rfl, G.out, _, rfl, by simp only [decide_eq_true_eq]; exact ⟨fun _ => ⟨l, q1, q2, q3, q4, q5, q6⟩, fun _ => hn⟩⟩
             ·exact ⟨_, rfl, G.out, _, rfl, by simp only [decide_eq_true_eq]; exact ⟨fun h => absurd h hn, fun h => absurd (q.2 ⟨⟨⟨⟨⟨⟨trivial, h.2.1⟩, h.2.2.1⟩, h.2.2.2.1⟩, h.2.2.2.2.1⟩, h.2.2.2.2.2.1⟩, h.2.2.2.2.2.2⟩) hn⟩⟩
end Go.Proofs.YtnlocdijdfclcaaGreatDoor
namespace Go.Proofs.YtnlocdijdfclcaaGreatDoor
open Go.RowKit Go.Lib Lex
set_option linter.unusedVariables false
set_option linter.unusedSimpArgs false

theorem sound1 {α : Type} {ok : α → List α → Prop} {a : α} (h : ok a []) : Sound ok [a] := fun i x hx => by
 match i with
 | 0 => simp at hx; subst hx; exact h
 | n + 1 => simp at hx
theorem sound2 {α : Type} {ok : α → List α → Prop} {a b : α} (h : ok a []) (k : ok b [a]) : Sound ok [a, b] := fun i x hx => by
 match i with
 | 0 => simp at hx; subst hx; exact h
 | 1 => simp at hx; subst hx; exact k
 | n + 2 => simp at hx
theorem namesOK_of {l : List (List UInt8)} (h : ∀ i : Fin l.length, isName l[i] = true ∧ ¬ l[i] ∈ l.take i) : NamesOK l := fun i s hs => by
 obtain ⟨hi, rfl⟩ := List.getElem?_eq_some_iff.1 hs
 exact h ⟨i, hi⟩
end Go.Proofs.YtnlocdijdfclcaaGreatDoor

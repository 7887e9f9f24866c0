/-
  The map of catalog.forms.
  catalog.validRule.
-/
import Derived.Test.YtnlocdijdfclcaaGreatDoorCatI
import Derived.Test.YtnlocdijdfclcaaGreatDoorEarly
import Derived.Laws.EntriesVeiled
namespace Go.Proofs.YtnlocdijdfclcaaGreatDoor
open Go.RowKit Go.Lib Lex
set_option linter.unusedVariables false
set_option linter.unusedSimpArgs false

def frm (f g : FuncId) : Value := .agg #[.func (.func f) #[] #[], .func (.func g) #[] #[]]
def formsL : List (Value × Value) := [(.int .i64 0, frm 152 154), (.int .i64 1, frm 155 156), (.int .i64 2, frm 157 158), (.int .i64 3, frm 159 160),
 (.int .i64 4, frm 161 162), (.int .i64 5, frm 163 164), (.int .i64 6, frm 165 166)]
theorem cat_forms (w : World) : Calls Tryz.prog 123 #[] w (Ret w fun r w' => ∃ b, r = .map (some b) ∧ MapAt w' b formsL) := by
 have hmk := fun w => run_makeMap (P := Tryz.prog) 133 w
 have i0 := run_store_alloc (P := Tryz.prog) (w := w) (es := #[]) (c := 0) (t := 133) (key := .int .i64 0) (es' := #[⟨.int .i64 0, (.agg #[.func (.func 152) #[] #[], .func (.func 154) #[] #[]]), 0⟩]) (.agg #[.func (.func 152) #[] #[], .func (.func 154) #[] #[]]) Tryz.underlying133 Tryz.underlying3 int_key (by rfl) (by rfl)
 simp only [Nat.reduceAdd] at i0
 have i1 := run_store_alloc (P := Tryz.prog) (w := w) (es := #[⟨.int .i64 0, (.agg #[.func (.func 152) #[] #[], .func (.func 154) #[] #[]]), 0⟩]) (c := 1) (t := 133) (key := .int .i64 1) (es' := #[⟨.int .i64 0, (.agg #[.func (.func 152) #[] #[], .func (.func 154) #[] #[]]), 0⟩, ⟨.int .i64 1, (.agg #[.func (.func 155) #[] #[], .func (.func 156) #[] #[]]), 1⟩]) (.agg #[.func (.func 155) #[] #[], .func (.func 156) #[] #[]]) Tryz.underlying133 Tryz.underlying3 int_key (by rfl) (by rfl)
 simp only [Nat.reduceAdd] at i1
 have i2 := run_store_alloc (P := Tryz.prog) (w := w) (es := #[⟨.int .i64 0, (.agg #[.func (.func 152) #[] #[], .func (.func 154) #[] #[]]), 0⟩, ⟨.int .i64 1, (.agg #[.func (.func 155) #[] #[], .func (.func 156) #[] #[]]), 1⟩]) (c := 2) (t := 133) (key := .int .i64 2) (es' := #[⟨.int .i64 0, (.agg #[.func (.func 152) #[] #[], .func (.func 154) #[] #[]]), 0⟩, ⟨.int .i64 1, (.agg #[.func (.func 155) #[] #[], .func (.func 156) #[] #[]]), 1⟩, ⟨.int .i64 2, (.agg #[.func (.func 157) #[] #[], .func (.func 158) #[] #[]]), 2⟩]) (.agg #[.func (.func 157) #[] #[], .func (.func 158) #[] #[]]) Tryz.underlying133 Tryz.underlying3 int_key (by rfl) (by rfl)
 simp only [Nat.reduceAdd] at i2
 have i3 := run_store_alloc (P := Tryz.prog) (w := w) (es := #[⟨.int .i64 0, (.agg #[.func (.func 152) #[] #[], .func (.func 154) #[] #[]]), 0⟩, ⟨.int .i64 1, (.agg #[.func (.func 155) #[] #[], .func (.func 156) #[] #[]]), 1⟩, ⟨.int .i64 2, (.agg #[.func (.func 157) #[] #[], .func (.func 158) #[] #[]]), 2⟩]) (c := 3) (t := 133) (key := .int .i64 3) (es' := #[⟨.int .i64 0, (.agg #[.func (.func 152) #[] #[], .func (.func 154) #[] #[]]), 0⟩, ⟨.int .i64 1, (.agg #[.func (.func 155) #[] #[], .func (.func 156) #[] #[]]), 1⟩, ⟨.int .i64 2, (.agg #[.func (.func 157) #[] #[], .func (.func 158) #[] #[]]), 2⟩, ⟨.int .i64 3, (.agg #[.func (.func 159) #[] #[], .func (.func 160) #[] #[]]), 3⟩]) (.agg #[.func (.func 159) #[] #[], .func (.func 160) #[] #[]]) Tryz.underlying133 Tryz.underlying3 int_key (by rfl) (by rfl)
 simp only [Nat.reduceAdd] at i3
 have i4 := run_store_alloc (P := Tryz.prog) (w := w) (es := #[⟨.int .i64 0, (.agg #[.func (.func 152) #[] #[], .func (.func 154) #[] #[]]), 0⟩, ⟨.int .i64 1, (.agg #[.func (.func 155) #[] #[], .func (.func 156) #[] #[]]), 1⟩, ⟨.int .i64 2, (.agg #[.func (.func 157) #[] #[], .func (.func 158) #[] #[]]), 2⟩, ⟨.int .i64 3, (.agg #[.func (.func 159) #[] #[], .func (.func 160) #[] #[]]), 3⟩]) (c := 4) (t := 133) (key := .int .i64 4) (es' := #[⟨.int .i64 0, (.agg #[.func (.func 152) #[] #[], .func (.func 154) #[] #[]]), 0⟩, ⟨.int .i64 1, (.agg #[.func (.func 155) #[] #[], .func (.func 156) #[] #[]]), 1⟩, ⟨.int .i64 2, (.agg #[.func (.func 157) #[] #[], .func (.func 158) #[] #[]]), 2⟩, ⟨.int .i64 3, (.agg #[.func (.func 159) #[] #[], .func (.func 160) #[] #[]]), 3⟩, ⟨.int .i64 4, (.agg #[.func (.func 161) #[] #[], .func (.func 162) #[] #[]]), 4⟩]) (.agg #[.func (.func 161) #[] #[], .func (.func 162) #[] #[]]) Tryz.underlying133 Tryz.underlying3 int_key (by rfl) (by rfl)
 simp only [Nat.reduceAdd] at i4
 have i5 := run_store_alloc (P := Tryz.prog) (w := w) (es := #[⟨.int .i64 0, (.agg #[.func (.func 152) #[] #[], .func (.func 154) #[] #[]]), 0⟩, ⟨.int .i64 1, (.agg #[.func (.func 155) #[] #[], .func (.func 156) #[] #[]]), 1⟩, ⟨.int .i64 2, (.agg #[.func (.func 157) #[] #[], .func (.func 158) #[] #[]]), 2⟩, ⟨.int .i64 3, (.agg #[.func (.func 159) #[] #[], .func (.func 160) #[] #[]]), 3⟩, ⟨.int .i64 4, (.agg #[.func (.func 161) #[] #[], .func (.func 162) #[] #[]]), 4⟩]) (c := 5) (t := 133) (key := .int .i64 5) (es' := #[⟨.int .i64 0, (.agg #[.func (.func 152) #[] #[], .func (.func 154) #[] #[]]), 0⟩, ⟨.int .i64 1, (.agg #[.func (.func 155) #[] #[], .func (.func 156) #[] #[]]), 1⟩, ⟨.int .i64 2, (.agg #[.func (.func 157) #[] #[], .func (.func 158) #[] #[]]), 2⟩, ⟨.int .i64 3, (.agg #[.func (.func 159) #[] #[], .func (.func 160) #[] #[]]), 3⟩, ⟨.int .i64 4, (.agg #[.func (.func 161) #[] #[], .func (.func 162) #[] #[]]), 4⟩, ⟨.int .i64 5, (.agg #[.func (.func 163) #[] #[], .func (.func 164) #[] #[]]), 5⟩]) (.agg #[.func (.func 163) #[] #[], .func (.func 164) #[] #[]]) Tryz.underlying133 Tryz.underlying3 int_key (by rfl) (by rfl)
 simp only [Nat.reduceAdd] at i5
 have i6 := run_store_alloc (P := Tryz.prog) (w := w) (es := #[⟨.int .i64 0, (.agg #[.func (.func 152) #[] #[], .func (.func 154) #[] #[]]), 0⟩, ⟨.int .i64 1, (.agg #[.func (.func 155) #[] #[], .func (.func 156) #[] #[]]), 1⟩, ⟨.int .i64 2, (.agg #[.func (.func 157) #[] #[], .func (.func 158) #[] #[]]), 2⟩, ⟨.int .i64 3, (.agg #[.func (.func 159) #[] #[], .func (.func 160) #[] #[]]), 3⟩, ⟨.int .i64 4, (.agg #[.func (.func 161) #[] #[], .func (.func 162) #[] #[]]), 4⟩, ⟨.int .i64 5, (.agg #[.func (.func 163) #[] #[], .func (.func 164) #[] #[]]), 5⟩]) (c := 6) (t := 133) (key := .int .i64 6) (es' := #[⟨.int .i64 0, (.agg #[.func (.func 152) #[] #[], .func (.func 154) #[] #[]]), 0⟩, ⟨.int .i64 1, (.agg #[.func (.func 155) #[] #[], .func (.func 156) #[] #[]]), 1⟩, ⟨.int .i64 2, (.agg #[.func (.func 157) #[] #[], .func (.func 158) #[] #[]]), 2⟩, ⟨.int .i64 3, (.agg #[.func (.func 159) #[] #[], .func (.func 160) #[] #[]]), 3⟩, ⟨.int .i64 4, (.agg #[.func (.func 161) #[] #[], .func (.func 162) #[] #[]]), 4⟩, ⟨.int .i64 5, (.agg #[.func (.func 163) #[] #[], .func (.func 164) #[] #[]]), 5⟩, ⟨.int .i64 6, (.agg #[.func (.func 165) #[] #[], .func (.func 166) #[] #[]]), 6⟩]) (.agg #[.func (.func 165) #[] #[], .func (.func 166) #[] #[]]) Tryz.underlying133 Tryz.underlying3 int_key (by rfl) (by rfl)
 simp only [Nat.reduceAdd] at i6
 go_enter Tryz.func123, Tryz.ntmps123
 go_wp2_with fail
 go_ret
 refine ⟨_, rfl, (Gr.refl w).alloc _, _, rfl, _, _, (MapKept.heap_alloc w _).1, rfl⟩
end Go.Proofs.YtnlocdijdfclcaaGreatDoor
namespace Go.Proofs.YtnlocdijdfclcaaGreatDoor
open Go.RowKit Go.Lib Lex
set_option linter.unusedVariables false
set_option linter.unusedSimpArgs false

def Two (w : World) (b : Nat) (x y : Value) : Prop := Cells w b #[x, y]
theorem Two.grow {w w' : World} {b : Nat} {x y : Value} (h : Two w b x y) (g : Gr w w') : Two w' b x y := Cells.grow h g
theorem Two.c0 {w : World} {b : Nat} {x y : Value} (h : Two w b x y) : ∀ w', Gr w w' → w'.cell? ⟨b, 0, none⟩ = some x := Cells.c h 0 rfl
theorem Two.c1 {w : World} {b : Nat} {x y : Value} (h : Two w b x y) : ∀ w', Gr w w' → w'.cell? ⟨b, 1, none⟩ = some y := Cells.c h 1 rfl
theorem Two.set {w : World} {b : Nat} {x y : Value} (h : Two w b x y) (u v : Value) : Two ((w.setCell ⟨b, 0, none⟩ u).setCell ⟨b, 1, none⟩ v) b u v := by
 have := (Cells.set h 0 u).set 1 v
 unfold Two
 simpa using this
def zcF : TypeId → Array Value := fun _ => #[.nilFunc, .nilFunc]
theorem Fresh.twoF {T : TypeId} {b : Nat} {w : World} (h : Fresh (zcF T) T b w) : Two w b .nilFunc .nilFunc := ⟨T, h⟩
theorem allocF : AllocIs Tryz.prog 131 (zcF 131) := fun w => by
 simp [go_sem]
 rfl
theorem Gr.two {a w : World} (g : Gr a w) {b : Nat} (hb : ¬ b < a.heap.size) (u v : Value) : Gr a ((w.setCell ⟨b, 0, none⟩ u).setCell ⟨b, 1, none⟩ v) :=
 Below.setCell (Below.setCell g (by show a.heap.size ≤ b; omega) u) (by show a.heap.size ≤ b; omega) v
theorem form_look (w : World) (b : Nat) (h : MapAt w b formsL) (k : Int) (v : Value) (hf : fkv (.int .i64) (.int .i64 k) formsL = some (some v)) :
  ∀ w', Gr w w' → (Instr.lookup 133 (.map (some b)) (.int .i64 k) true).run Tryz.prog w' = .ok (.tuple #[v, .bool true]) w' := fun w' g =>
 (run_lookup_kv (h.grow g) Tryz.underlying133 Tryz.underlying3 int_key hf).2
theorem form_none (w : World) (b : Nat) (h : MapAt w b formsL) (k : Int) (hf : fkv (.int .i64) (.int .i64 k) formsL = some none) :
  ∀ w', Gr w w' → (Instr.lookup 133 (.map (some b)) (.int .i64 k) true).run Tryz.prog w' = .ok (.tuple #[.agg #[.nilFunc, .nilFunc], .bool false]) w' := fun w' g =>
 (run_lookup_none (h.grow g) Tryz.underlying133 Tryz.underlying3 int_key (by kernel_rfl) hf).2
theorem fin_0 {M : Mdl} {x : RuleM} (hk : x.kind = 0) : RuleOK M x ↔ (Ex x.item M.items.length ∧ (∃ it, M.items[(x.item - 1).toNat]? = some it ∧ it.kind = 0) ∧ True) ∧ Alike x { noRule with item := x.item } := by
 rw [rule_0 hk]
 refine ⟨fun h => ?_, fun h => ?_⟩ <;> simp_all [Alike, noRule]
theorem fin_1 {M : Mdl} {x : RuleM} (hk : x.kind = 1) : RuleOK M x ↔ (Ex x.item M.items.length ∧ Within x.n 0 16) ∧ Alike x { noRule with item := x.item, n := x.n, always := x.always } := by
 rw [rule_1 hk]
 refine ⟨fun h => ?_, fun h => ?_⟩ <;> simp_all [Alike, noRule]
theorem fin_2 {M : Mdl} {x : RuleM} (hk : x.kind = 2) : RuleOK M x ↔ (Ex x.item M.items.length ∧ Within x.n 0 16 ∧ Within x.bye 2 4) ∧ Alike x { noRule with item := x.item, n := x.n, bye := x.bye } := by
 rw [rule_2 hk]
 refine ⟨fun h => ?_, fun h => ?_⟩ <;> simp_all [Alike, noRule]
theorem fin_3 {M : Mdl} {x : RuleM} (hk : x.kind = 3) : RuleOK M x ↔ (Ex x.item M.items.length ∧ MsOK M x.ms) ∧ Alike x { noRule with item := x.item, msP := x.msP, msC := x.msC, ms := x.ms } := by
 rw [rule_3 hk]
 refine ⟨fun h => ?_, fun h => ?_⟩ <;> simp_all [Alike, noRule]
theorem fin_4 {M : Mdl} {x : RuleM} (hk : x.kind = 4) : RuleOK M x ↔ (Ex x.item M.items.length ∧ Ex x.other M.items.length ∧ x.item ≠ x.other) ∧ Alike x { noRule with item := x.item, other := x.other } := by
 rw [rule_4 hk]
 refine ⟨fun h => ?_, fun h => ?_⟩ <;> simp_all [Alike, noRule]
theorem fin_5 {M : Mdl} {x : RuleM} (hk : x.kind = 5) : RuleOK M x ↔ (Within x.n 0 200) ∧ Alike x { noRule with n := x.n } := by
 rw [rule_5 hk]
 refine ⟨fun h => ?_, fun h => ?_⟩ <;> simp_all [Alike, noRule]
theorem fin_6 {M : Mdl} {x : RuleM} (hk : x.kind = 6) : RuleOK M x ↔ (Ex x.item M.items.length ∧ Within x.n 0 16) ∧ Alike x { noRule with item := x.item, n := x.n } := by
 rw [rule_6 hk]
 refine ⟨fun h => ?_, fun h => ?_⟩ <;> simp_all [Alike, noRule]
theorem noms (w : World) : IntL w (.slice none 0 0) [] := ⟨rfl, none, 0, rfl, Nat.le_refl _, by decide, .inl rfl⟩
set_option maxRecDepth 100000 in
set_option maxHeartbeats 1600000 in
theorem cat_validRule0 (w : World) (P : Ptrs) (M : Mdl) (x : RuleM) (hm : MdlAt w P M) (hx : RuleMs w x) (hb : x.ms.length ≤ 1000000) (hk : x.kind = 0) :
  Calls Tryz.prog 75 #[.agg (mcells P M), .agg (ruleV x)] w (Ret w fun r _ => Tells (RuleOK M x) r) := by
 have HK := Lib.hid hk
 clear hk
 have HM := Lib.hid hm
 have HX := Lib.hid hx
 have B0 := Cells.new w (mcells P M) 29
 have B := Cells.new (w.alloc (.cells (mcells P M) 29)) #[.int .i64 x.kind, .int .i64 x.item, .int .i64 x.other, .int .i64 x.n, .int .i64 x.bye, .bool x.always, .slice x.msP x.ms.length x.msC] 63
 rw [World.size_alloc] at B
 clear hm hx
 have m0 := mc0 B0.2 _ B.1
 have m1 := mc1 B0.2 _ B.1
 have m2 := mc2 B0.2 _ B.1
 have m3 := mc3 B0.2 _ B.1
 have m4 := mc4 B0.2 _ B.1
 have m5 := mc5 B0.2 _ B.1
 have m6 := mc6 B0.2 _ B.1
 have m7 := mc7 B0.2 _ B.1
 have m8 := mc8 B0.2 _ B.1
 have m9 := mc9 B0.2 _ B.1
 have m10 := mc10 B0.2 _ B.1
 have x0 : World.cell? _ ⟨_, 0, none⟩ = some (.int .i64 x.kind) := (B.2).at 0 rfl
 have x1 : World.cell? _ ⟨_, 1, none⟩ = some (.int .i64 x.item) := (B.2).at 1 rfl
 have x2 : World.cell? _ ⟨_, 2, none⟩ = some (.int .i64 x.other) := (B.2).at 2 rfl
 have x3 : World.cell? _ ⟨_, 3, none⟩ = some (.int .i64 x.n) := (B.2).at 3 rfl
 have x4 : World.cell? _ ⟨_, 4, none⟩ = some (.int .i64 x.bye) := (B.2).at 4 rfl
 have x5 : World.cell? _ ⟨_, 5, none⟩ = some (.bool x.always) := (B.2).at 5 rfl
 have x6 : World.cell? _ ⟨_, 6, none⟩ = some (.slice x.msP x.ms.length x.msC) := (B.2).at 6 rfl
 have H0 := Lib.hid (B0.1.trans B.1)
 have H1 := Lib.hid (B0.2.grow B.1)
 have H2 := Lib.hid B.2
 clear B0 B
 unfold ruleV
 unfold mcells at H0 H1 H2 m0 m1 m2 m3 m4 m5 m6 m7 m8 m9 m10 x0 x1 x2 x3 x4 x5 x6 ⊢
 go_enter Tryz.func75, Tryz.ntmps75
 go_wp2_with fail
 clear m0 m1 m2 m3 m4 m5 m6 m7 m8 m9 m10 x0 x1 x2 x3 x4 x5 x6
 generalize w.heap.size + 1 = bx at H2 ⊢
 generalize w.heap.size = bm at H1 ⊢
 generalize (w.alloc _).alloc _ = W at H0 H1 H2 ⊢
 have TM := Lib.hid (show Cells W bm (mcells P M) from H1.out)
 have TX := Lib.hid H2.out
 have G := Lib.hid H0.out
 have HM := Lib.hid (HM.out.grow G.out)
 have HX := Lib.hid (SlL.grow HX.out G.out)
 clear H0 H1 H2
 have m0 := mc0 TM.out _ (Gr.refl _)
 have m1 := mc1 TM.out _ (Gr.refl _)
 have m2 := mc2 TM.out _ (Gr.refl _)
 have m3 := mc3 TM.out _ (Gr.refl _)
 have m4 := mc4 TM.out _ (Gr.refl _)
 have m5 := mc5 TM.out _ (Gr.refl _)
 have m6 := mc6 TM.out _ (Gr.refl _)
 have m7 := mc7 TM.out _ (Gr.refl _)
 have m8 := mc8 TM.out _ (Gr.refl _)
 have m9 := mc9 TM.out _ (Gr.refl _)
 have m10 := mc10 TM.out _ (Gr.refl _)
 have x0 : World.cell? W ⟨_, 0, none⟩ = some (.int .i64 x.kind) := (TX.out).at 0 rfl
 have x1 : World.cell? W ⟨_, 1, none⟩ = some (.int .i64 x.item) := (TX.out).at 1 rfl
 have x2 : World.cell? W ⟨_, 2, none⟩ = some (.int .i64 x.other) := (TX.out).at 2 rfl
 have x3 : World.cell? W ⟨_, 3, none⟩ = some (.int .i64 x.n) := (TX.out).at 3 rfl
 have x4 : World.cell? W ⟨_, 4, none⟩ = some (.int .i64 x.bye) := (TX.out).at 4 rfl
 have x5 : World.cell? W ⟨_, 5, none⟩ = some (.bool x.always) := (TX.out).at 5 rfl
 have x6 : World.cell? W ⟨_, 6, none⟩ = some (.slice x.msP x.ms.length x.msC) := (TX.out).at 6 rfl
 clear m0 m1 m2 m3 m4 m5 m6 m7 m8 m9 m10
 clear x0 x1 x2 x3 x4 x5 x6
 have x0 : ∀ w', Gr W w' → w'.cell? ⟨bx, 0, none⟩ = some (.int .i64 x.kind) := TX.out.c 0 rfl
 have g0 : Gr W W.drew := (Gr.refl _).drew
 refine wp_region_late zcF 60 [(1, 1), (2, 1), (0, 0), (3, 1), (4, 1), (5, 1), (6, 1), (7, 2), (8, 0), (9, 1)] (by kernel_rfl) (by kernel_rfl) rfl (by kernel_rfl) (fun _ _ d _ _ h => by cases d <;> exact h) (fun _ _ d _ _ h => by cases d <;> exact h) (by intro i hi; simp at hi; subst hi; exact ⟨_, _, rfl, rfl, rfl, allocF⟩) ?_
 repeat (refine wpF_readB (v := ?_) g0 rfl rfl (fun w' hg => ?_) (fun K hK => ?_); rotate_left; (go_simp; rfl); go_simp; refine hK _ _ ?_; clear hK K)
 refine wpF_do rfl rfl (fun K hK w1 g1 => ?_)
 go_simp
 refine (cat_forms _).mono ?_
 rintro _ w2 ⟨r2, rfl, g2, b, rfl, hf⟩
 refine ⟨fun _ => g2, hK _ _ ?_⟩
 clear hK K
 have hl := form_look w2 b hf x.kind (frm 152 154) (by rw [HK.out]; rfl)
 have g9 := (g0.trans g1).trans g2
 clear g0 g1 g2 hf
 have gr := Gr.refl w2
 try dsimp only [frm] at hl
 repeat (refine wpF_readB (v := ?_) gr rfl rfl (fun w' hg => ?_) (fun K hK => ?_); rotate_left; (go_simp; rfl); go_simp; refine hK _ _ ?_; clear hK K)
 clear hl x0
 refine wpF_new rfl rfl (fun K w8 b5 g8 f2 n2 hK => hK _ _ ?_)
 clear hK K
 have T2' := f2.twoF
 clear f2
 refine wpF_do rfl rfl (fun K hK w10 g10 => ?_)
 have e2 := T2'.grow g10
 have d0 := e2.c0 w10 (Gr.refl _)
 have d1 := e2.c1 w10 (Gr.refl _)
 have d2 := Cells.f e2 0
 have d3 := Cells.f e2 1
 go_simp
 refine ⟨fun h => Bool.noConfusion h, hK _ _ ?_⟩
 clear hK K
 have h13 := (g9.trans (g8.trans g10)).two n2 (.func (.func 152) #[] #[]) (.func (.func 154) #[] #[])
 have T5 := e2.set (.func (.func 152) #[] #[]) (.func (.func 154) #[] #[])
 clear d0 d1 d2 d3 e2 T2' gr
 generalize (w10.setCell _ _).setCell _ _ = W3 at h13 T5 ⊢
 have gr := Gr.refl W3
 repeat (refine wpF_readB (v := ?_) gr rfl rfl (fun w' hg => ?_) (fun K hK => ?_); rotate_left; (go_simp; rfl); go_simp; refine hK _ _ ?_; clear hK K)
 refine wpF_nil ?_
 clear n2 g8 g10 g9 gr
 have G := Lib.hid (G.out.trans h13)
 have TM := Lib.hid (TM.out.grow h13)
 have TX := Lib.hid (TX.out.grow h13)
 have HM := Lib.hid (HM.out.grow h13)
 have HX := Lib.hid (HX.out.grow h13)
 clear h13
 have T5 := Lib.hid T5
 go_wp2_with fail
 have g0 : Gr W3 W3.drew := (Gr.refl _).drew
 have m0 := mc0 TM.out
 have m1 := mc1 TM.out
 have m2 := mc2 TM.out
 have m3 := mc3 TM.out
 have m4 := mc4 TM.out
 have m5 := mc5 TM.out
 have m6 := mc6 TM.out
 have m7 := mc7 TM.out
 have m8 := mc8 TM.out
 have m9 := mc9 TM.out
 have m10 := mc10 TM.out
 try dsimp only at m0 m1 m2 m3 m4 m5 m6 m7 m8 m9 m10
 have x0 : ∀ w', Gr W3 w' → w'.cell? ⟨bx, 0, none⟩ = some (.int .i64 x.kind) := TX.out.c 0 rfl
 have x1 : ∀ w', Gr W3 w' → w'.cell? ⟨bx, 1, none⟩ = some (.int .i64 x.item) := TX.out.c 1 rfl
 have x2 : ∀ w', Gr W3 w' → w'.cell? ⟨bx, 2, none⟩ = some (.int .i64 x.other) := TX.out.c 2 rfl
 have x3 : ∀ w', Gr W3 w' → w'.cell? ⟨bx, 3, none⟩ = some (.int .i64 x.n) := TX.out.c 3 rfl
 have x4 : ∀ w', Gr W3 w' → w'.cell? ⟨bx, 4, none⟩ = some (.int .i64 x.bye) := TX.out.c 4 rfl
 have x5 : ∀ w', Gr W3 w' → w'.cell? ⟨bx, 5, none⟩ = some (.bool x.always) := TX.out.c 5 rfl
 have x6 : ∀ w', Gr W3 w' → w'.cell? ⟨bx, 6, none⟩ = some (.slice x.msP x.ms.length x.msC) := TX.out.c 6 rfl
 have t0 := T5.out.c0
 have t1 := T5.out.c1
 have he1 : ∀ args w, (callFunc 152 args).run Tryz.prog w = .ok (.enter 152 args) w := enters_of Tryz.func152 (by kernel_rfl) rfl
 have he2 : ∀ args w, (callFunc 154 args).run Tryz.prog w = .ok (.enter 154 args) w := enters_of Tryz.func154 (by kernel_rfl) rfl
 refine wp_region_fast [(0, true), (1, true), (2, true), (3, true), (4, true), (5, true), (6, false), (7, true), (8, true), (9, true), (10, true), (11, true), (12, true), (13, false), (14, false), (15, true), (16, true)] (by kernel_rfl) (by kernel_rfl) rfl (by kernel_rfl) (fun _ _ d _ _ h => by cases d <;> exact h) ?_
 repeat (refine wpE_readB (v := ?_) g0 rfl rfl (fun w' hg => ?_) (fun K hK => ?_); rotate_left; (go_simp; rfl); go_simp; refine hK _ _ ?_; clear hK K)
 refine wpE_fnV (args := ?_) rfl rfl rfl rfl rfl he1 ?_ (fun K hK => ?_)
 rotate_left
 ·go_simp; rfl
 refine (frm_1 _ P M x (HM.out.grow g0) (HX.out.grow g0)).mono ?_
 rintro _ w4 ⟨r4, rfl, g4, h4⟩
 refine ⟨_, rfl, g4, ?_⟩
 go_simp
 refine hK _ _ ?_
 clear hK K
 have G := Lib.hid (G.out.trans (g0.trans g4))
 replace g0 := g0.trans g4
 rcases h4.cases with ⟨rfl, k1⟩ | ⟨rfl, k1⟩ <;> have h1 := Lib.hid k1 <;> clear k1 h4
 ·repeat (refine wpE_readB (v := ?_) g0 rfl rfl (fun w' hg => ?_) (fun K hK => ?_); rotate_left; (go_simp; rfl); go_simp; refine hK _ _ ?_; clear hK K)
  refine wpE_fnV (args := ?_) rfl rfl rfl rfl rfl he2 ?_ (fun K hK => ?_)
  rotate_left
  ·go_simp; rfl
  refine (prj_2 _ x).mono ?_
  rintro _ w5 ⟨_, rfl, g5, rfl⟩
  refine ⟨_, rfl, g5, ?_⟩
  go_simp
  refine hK _ _ ?_
  clear hK K
  have G := Lib.hid (G.out.trans g5)
  replace g0 := g0.trans g5
  repeat (refine wpE_readB (v := ?_) g0 rfl rfl (fun w' hg => ?_) (fun K hK => ?_); rotate_left; (go_simp; rfl); go_simp; refine hK _ _ ?_; clear hK K)
  refine wpE_fn (args := ?_) rfl rfl rfl rfl rfl rfl (by kernel_rfl) (by kernel_rfl) ?_ (fun K hK => ?_)
  rotate_left
  ·go_simp; rfl
  refine (cat_same _ x { noRule with item := x.item } (HX.out.grow g0) (noms _) hb (Nat.zero_le _)).mono ?_
  rintro _ w6 ⟨r6, rfl, g6, h6⟩
  refine ⟨_, rfl, g6, ?_⟩
  go_simp
  refine hK _ _ ?_
  clear hK K
  have G := Lib.hid (G.out.trans g6)
  replace g0 := g0.trans g6
  rcases h6.cases with ⟨rfl, k1⟩ | ⟨rfl, k1⟩ <;> have h2 := Lib.hid k1 <;> clear k1 h6
  ·repeat (refine wpE_readB (v := ?_) g0 rfl rfl (fun w' hg => ?_) (fun K hK => ?_); rotate_left; (go_simp; rfl); go_simp; refine hK _ _ ?_; clear hK K)
   refine wpE_nil ?_
   go_wp2_with fail
   go_ret
   exact ⟨_, rfl, G.out, Tells.yes ((fin_0 HK.out).2 ⟨h1.out, h2.out⟩)⟩
  ·repeat (refine wpE_readB (v := ?_) g0 rfl rfl (fun w' hg => ?_) (fun K hK => ?_); rotate_left; (go_simp; rfl); go_simp; refine hK _ _ ?_; clear hK K)
   refine wpE_nil ?_
   go_wp2_with fail
   go_ret
   exact ⟨_, rfl, G.out, Tells.no fun h => h2.out ((fin_0 HK.out).1 h).2⟩
 ·repeat (refine wpE_readB (v := ?_) g0 rfl rfl (fun w' hg => ?_) (fun K hK => ?_); rotate_left; (go_simp; rfl); go_simp; refine hK _ _ ?_; clear hK K)
  repeat (refine wpE_skip rfl rfl ?_; go_simp)
  repeat (refine wpE_readB (v := ?_) g0 rfl rfl (fun w' hg => ?_) (fun K hK => ?_); rotate_left; (go_simp; rfl); go_simp; refine hK _ _ ?_; clear hK K)
  refine wpE_nil ?_
  go_wp2_with fail
  go_ret
  exact ⟨_, rfl, G.out, Tells.no fun h => h1.out ((fin_0 HK.out).1 h).1⟩
end Go.Proofs.YtnlocdijdfclcaaGreatDoor

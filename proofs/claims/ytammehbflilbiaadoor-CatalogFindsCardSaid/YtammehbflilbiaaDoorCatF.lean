/-
  exodusref15.Rule (the walks are printed by rulegen.py).
-/
import Derived.Test.YtammehbflilbiaaDoorCatE
namespace Go.Proofs.YtammehbflilbiaaDoor
open Go.RowKit Go.Lib Lex
set_option linter.unusedVariables false
set_option linter.unusedSimpArgs false

abbrev ruleV (x : RuleM) : Array Value := #[.int .i64 x.kind, .int .i64 x.item, .int .i64 x.other, .int .i64 x.n, .int .i64 x.bye, .bool x.always, .slice x.msP x.ms.length x.msC]
theorem rule_0 {M : Mdl} {x : RuleM} (hk : x.kind = 0) : RuleOK M x ↔ Ex x.item M.items.length ∧ (∃ it, M.items[(x.item - 1).toNat]? = some it ∧ it.kind = 0) ∧ x.other = 0 ∧ x.n = 0 ∧ x.bye = 0 ∧ x.always = false ∧ x.ms = [] := by
  unfold RuleOK; rw [hk]; simp [ItemNo, Within, Ex, and_assoc]
theorem rule_1 {M : Mdl} {x : RuleM} (hk : x.kind = 1) : RuleOK M x ↔ Ex x.item M.items.length ∧ Within x.n 0 16 ∧ x.other = 0 ∧ x.bye = 0 ∧ x.ms = [] := by
  unfold RuleOK; rw [hk]; simp [ItemNo, Within, Ex, and_assoc]
theorem rule_2 {M : Mdl} {x : RuleM} (hk : x.kind = 2) : RuleOK M x ↔ Ex x.item M.items.length ∧ Within x.n 0 16 ∧ Within x.bye 2 4 ∧ x.other = 0 ∧ x.always = false ∧ x.ms = [] := by
  unfold RuleOK; rw [hk]; simp [ItemNo, Within, Ex, and_assoc]
theorem rule_3 {M : Mdl} {x : RuleM} (hk : x.kind = 3) : RuleOK M x ↔ Ex x.item M.items.length ∧ MsOK M x.ms ∧ x.other = 0 ∧ x.n = 0 ∧ x.bye = 0 ∧ x.always = false := by
  unfold RuleOK; rw [hk]; simp [ItemNo, Within, Ex, and_assoc]
theorem rule_4 {M : Mdl} {x : RuleM} (hk : x.kind = 4) : RuleOK M x ↔ Ex x.item M.items.length ∧ Ex x.other M.items.length ∧ x.item ≠ x.other ∧ x.n = 0 ∧ x.bye = 0 ∧ x.always = false ∧ x.ms = [] := by
  unfold RuleOK; rw [hk]; simp [ItemNo, Within, Ex, and_assoc]
theorem rule_5 {M : Mdl} {x : RuleM} (hk : x.kind = 5) : RuleOK M x ↔ Within x.n 0 200 ∧ x.item = 0 ∧ x.other = 0 ∧ x.bye = 0 ∧ x.always = false ∧ x.ms = [] := by
  unfold RuleOK; rw [hk]; simp [ItemNo, Within, Ex, and_assoc]
theorem rule_6 {M : Mdl} {x : RuleM} (hk : x.kind = 6) : RuleOK M x ↔ Ex x.item M.items.length ∧ Within x.n 0 16 ∧ x.other = 0 ∧ x.bye = 0 ∧ x.always = false ∧ x.ms = [] := by
  unfold RuleOK; rw [hk]; simp [ItemNo, Within, Ex, and_assoc]
theorem rule_7 {M : Mdl} {x : RuleM} (hk : ¬ x.kind = 0 ∧ ¬ x.kind = 1 ∧ ¬ x.kind = 2 ∧ ¬ x.kind = 3 ∧ ¬ x.kind = 4 ∧ ¬ x.kind = 5 ∧ ¬ x.kind = 6) : ¬ RuleOK M x := by
  obtain ⟨h0, h1, h2, h3, h4, h5, h6⟩ := hk
  unfold RuleOK; simp [h0, h1, h2, h3, h4, h5, h6]
theorem con_B_W24 {n : Int} (h : n = 0) (k : Within n 2 4) : False := by unfold Within at k; omega
theorem con_L_MS {M : Mdl} {l : List Int} (h : l = []) (k : MsOK M l) : False := k.1 h
theorem con_O_EO {n : Int} {l : Nat} (h : n = 0) (k : Ex n l) : False := by unfold Ex at k; omega
theorem con_I_E {n : Int} {l : Nat} (h : n = 0) (k : Ex n l) : False := by unfold Ex at k; omega
theorem item_of {w : World} {P : Ptrs} {M : Mdl} {n : Int} (hm : MdlAt w P M) (h : Ex n M.items.length) : ∃ (k : Nat) (it : ItemM) (b o : Nat), n = (k : Int) + 1 ∧ (IntKind.i64.wrap (k : Int) = (k : Int) ∧ (k : Int) < (M.items.length : Int)) ∧ P.p5 = some ⟨b, o, none⟩ ∧ M.items[k]? = some it ∧ ∀ w', Gr w w' → ItemCell w' b (o + k * 7) it := by
  obtain ⟨h1, h2⟩ := h
  obtain ⟨b, o, it, hp, hx, hc⟩ := item_at hm.items rfl (k := (n - 1).toNat) (by omega)
  have := hm.big.2.2.2.2.2.1
  exact ⟨(n - 1).toNat, it, b, o, by omega, ⟨by rw [IntKind.wrap_i64]; omega, by omega⟩, hp, hx, hc⟩
theorem kind_of {M : Mdl} {n : Int} {k : Nat} {it : ItemM} {p q r : Prop} (e : n = (k : Int) + 1) (hit : M.items[k]? = some it) (h : p ↔ q ∧ (∃ it, M.items[(n - 1).toNat]? = some it ∧ it.kind = 0) ∧ r) : p ↔ q ∧ it.kind = 0 ∧ r := by
  have e1 : (n - 1).toNat = k := by omega
  rw [h, e1, hit]
  simp
end Go.Proofs.YtammehbflilbiaaDoor

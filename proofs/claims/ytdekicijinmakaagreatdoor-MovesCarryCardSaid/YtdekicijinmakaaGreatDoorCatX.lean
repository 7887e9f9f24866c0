/-
  ContainsFunc of items and rules, with a predicate that speaks of the row's elements; the closures of catalog.Valid.
  The closures of catalog.Valid.
  A set of strings by a map[string]bool of the call's own; a row behind it stays.
-/
import Derived.Test.YtdekicijinmakaaGreatDoorCatV
namespace Go.Proofs.YtdekicijinmakaaGreatDoor
open Go.RowKit Go.Lib Lex
set_option linter.unusedVariables false
set_option linter.unusedSimpArgs false

def PrdIn {α : Type} (w : World) (v : Value) (enc : α → List Value) (l : List α) (ok : α → Prop) : Prop := ∃ (f : Nat) (caps : Array Value), v = .func (.func f) #[] caps ∧ (∀ args w, (callFunc f args).run Tryz.prog w = .ok (.enter f args) w) ∧
  ∀ w', Gr w w' → ∀ x ∈ l, Calls Tryz.prog f (#[.agg (enc x).toArray] ++ caps) w' (Ret w' fun r _ => Tells (ok x) r)
set_option maxRecDepth 100000 in
theorem item_indexI (w : World) (p : Option Addr) (n c : Nat) (l : List ItemM) (v : Value) (ok : ItemM → Prop) (hl : SlL w 7 encItem (.slice p n c) l) (hn : l.length = n) (hb : n ≤ 1000000) (hv : PrdIn w v encItem l ok) :
    Calls Tryz.prog 130 #[.slice p n c, v] w (Ret w fun r _ => ∃ z : Int, r = .int .i64 z ∧ (0 ≤ z ↔ ∃ x ∈ l, ok x)) := by
  obtain ⟨f, caps, rfl, he, h5⟩ := hv
  have H5 := Lib.hid h5
  have HL := Lib.hid hl
  have HN := Lib.hid hn
  clear h5 hl hn
  go_enter Tryz.func130, Tryz.ntmps130
  go_wp2_with fail
  go_loopw [8] (fun i w1 => ∃ k : Nat, i = .int .i64 k ∧ k ≤ n ∧ (∀ j x, j < k → l[j]? = some x → ¬ ok x) ∧ Gr w w1) (fun i _ => n - (RowKit.intOf i).toNat)
  case atStart => exact ⟨0, rfl, Nat.zero_le _, fun j x hj => by omega, Gr.refl _⟩
  case round =>
    obtain ⟨k, rfl, hk, hp, hg⟩ := hrel
    have Hp := Lib.hid hp
    have G := Lib.hid hg
    clear hp hg
    by_cases hlt : k < n
    · have hlt' : (k : Int) < (n : Int) := by omega
      obtain ⟨b, o, x, rfl, hx, hc⟩ := item_at HL.out HN.out hlt
      have HX := Lib.hid hx
      obtain ⟨c0, c1, c2, c3, c4, c5, c6⟩ := hc wr G.out
      clear hc hx
      go_wp2_with fail
      refine (H5.out wr G.out x (List.mem_of_getElem? HX.out)).mono ?_
      rintro _ w2 ⟨r2, rfl, g2, h2⟩
      have G := Lib.hid (G.out.trans g2)
      obtain ⟨t, rfl, ht⟩ := h2
      have Ht := Lib.hid ht
      clear g2 ht
      cases t
      · go_wp2_with fail
        refine ⟨⟨k + 1, by go_num, by omega, fun j y hj hy => ?_, G.out⟩, by simp [RowKit.intOf]; omega⟩
        by_cases e : j = k
        · subst e
          rw [HX.out] at hy
          cases hy
          exact fun h => absurd (Ht.out.2 h) (by decide)
        · exact Hp.out j y (by omega) hy
      · go_wp2_with fail
        go_ret
        exact ⟨_, rfl, G.out, (k : Int), rfl, ⟨fun _ => ⟨x, List.mem_of_getElem? HX.out, (by have := Ht.out; simpa using this)⟩, fun _ => by omega⟩⟩
    · obtain rfl : n = k := by omega
      go_wp2_with fail
      go_ret
      refine ⟨_, rfl, G.out, -1, rfl, ⟨fun h => absurd h (by decide), fun ⟨x, hx, h⟩ => ?_⟩⟩
      obtain ⟨j, hj, e⟩ := List.mem_iff_getElem.1 hx
      exact absurd h (Hp.out j x (by rw [HN.out] at hj; exact hj) (by rw [List.getElem?_eq_getElem hj, e]))
theorem item_containsI (w : World) (p : Option Addr) (n c : Nat) (l : List ItemM) (v : Value) (ok : ItemM → Prop) (hl : SlL w 7 encItem (.slice p n c) l) (hn : l.length = n) (hb : n ≤ 1000000) (hv : PrdIn w v encItem l ok) :
    Calls Tryz.prog 79 #[.slice p n c, v] w (Ret w fun r _ => Tells (∃ x ∈ l, ok x) r) := by
  have H := Lib.hid (item_indexI w p n c l v ok hl hn hb hv)
  obtain ⟨f, caps, rfl, he, h5⟩ := hv
  clear hl hn h5
  go_enter Tryz.func79, Tryz.ntmps79
  go_wp2_with fail
  refine H.out.mono ?_
  rintro _ w2 ⟨_, rfl, g2, z, rfl, hz⟩
  have G := Lib.hid g2
  have Hz := Lib.hid hz
  clear g2 hz
  go_wp2_with fail
  go_ret
  exact ⟨_, rfl, G.out, decide (0 ≤ z), rfl, by rw [← Hz.out]; simp⟩
set_option maxRecDepth 100000 in
theorem rule_indexI (w : World) (p : Option Addr) (n c : Nat) (l : List RuleM) (v : Value) (ok : RuleM → Prop) (hl : SlL w 7 encRule (.slice p n c) l) (hn : l.length = n) (hb : n ≤ 1000000) (hv : PrdIn w v encRule l ok) :
    Calls Tryz.prog 135 #[.slice p n c, v] w (Ret w fun r _ => ∃ z : Int, r = .int .i64 z ∧ (0 ≤ z ↔ ∃ x ∈ l, ok x)) := by
  obtain ⟨f, caps, rfl, he, h5⟩ := hv
  have H5 := Lib.hid h5
  have HL := Lib.hid hl
  have HN := Lib.hid hn
  clear h5 hl hn
  go_enter Tryz.func135, Tryz.ntmps135
  go_wp2_with fail
  go_loopw [8] (fun i w1 => ∃ k : Nat, i = .int .i64 k ∧ k ≤ n ∧ (∀ j x, j < k → l[j]? = some x → ¬ ok x) ∧ Gr w w1) (fun i _ => n - (RowKit.intOf i).toNat)
  case atStart => exact ⟨0, rfl, Nat.zero_le _, fun j x hj => by omega, Gr.refl _⟩
  case round =>
    obtain ⟨k, rfl, hk, hp, hg⟩ := hrel
    have Hp := Lib.hid hp
    have G := Lib.hid hg
    clear hp hg
    by_cases hlt : k < n
    · have hlt' : (k : Int) < (n : Int) := by omega
      obtain ⟨b, o, x, rfl, hx, hc⟩ := rule_at HL.out HN.out hlt
      have HX := Lib.hid hx
      obtain ⟨c0, c1, c2, c3, c4, c5, c6⟩ := hc wr G.out
      clear hc hx
      go_wp2_with fail
      refine (H5.out wr G.out x (List.mem_of_getElem? HX.out)).mono ?_
      rintro _ w2 ⟨r2, rfl, g2, h2⟩
      have G := Lib.hid (G.out.trans g2)
      obtain ⟨t, rfl, ht⟩ := h2
      have Ht := Lib.hid ht
      clear g2 ht
      cases t
      · go_wp2_with fail
        refine ⟨⟨k + 1, by go_num, by omega, fun j y hj hy => ?_, G.out⟩, by simp [RowKit.intOf]; omega⟩
        by_cases e : j = k
        · subst e
          rw [HX.out] at hy
          cases hy
          exact fun h => absurd (Ht.out.2 h) (by decide)
        · exact Hp.out j y (by omega) hy
      · go_wp2_with fail
        go_ret
        exact ⟨_, rfl, G.out, (k : Int), rfl, ⟨fun _ => ⟨x, List.mem_of_getElem? HX.out, (by have := Ht.out; simpa using this)⟩, fun _ => by omega⟩⟩
    · obtain rfl : n = k := by omega
      go_wp2_with fail
      go_ret
      refine ⟨_, rfl, G.out, -1, rfl, ⟨fun h => absurd h (by decide), fun ⟨x, hx, h⟩ => ?_⟩⟩
      obtain ⟨j, hj, e⟩ := List.mem_iff_getElem.1 hx
      exact absurd h (Hp.out j x (by rw [HN.out] at hj; exact hj) (by rw [List.getElem?_eq_getElem hj, e]))
theorem rule_containsI (w : World) (p : Option Addr) (n c : Nat) (l : List RuleM) (v : Value) (ok : RuleM → Prop) (hl : SlL w 7 encRule (.slice p n c) l) (hn : l.length = n) (hb : n ≤ 1000000) (hv : PrdIn w v encRule l ok) :
    Calls Tryz.prog 82 #[.slice p n c, v] w (Ret w fun r _ => Tells (∃ x ∈ l, ok x) r) := by
  have H := Lib.hid (rule_indexI w p n c l v ok hl hn hb hv)
  obtain ⟨f, caps, rfl, he, h5⟩ := hv
  clear hl hn h5
  go_enter Tryz.func82, Tryz.ntmps82
  go_wp2_with fail
  refine H.out.mono ?_
  rintro _ w2 ⟨_, rfl, g2, z, rfl, hz⟩
  have G := Lib.hid g2
  have Hz := Lib.hid hz
  clear g2 hz
  go_wp2_with fail
  go_ret
  exact ⟨_, rfl, G.out, decide (0 ≤ z), rfl, by rw [← Hz.out]; simp⟩
end Go.Proofs.YtdekicijinmakaaGreatDoor
namespace Go.Proofs.YtdekicijinmakaaGreatDoor
open Go.RowKit Go.Lib Lex
set_option linter.unusedVariables false
set_option linter.unusedSimpArgs false

set_option maxRecDepth 100000 in
theorem valid_1 (w : World) (P : Ptrs) (M : Mdl) (bm : Nat) (x : ItemM) (hb : Cells w bm (mcells P M)) (hm : MdlAt w P M) (hx : ItemOn w x) (hl : x.on.length ≤ 1000000) :
    Calls Tryz.prog 80 #[.agg (itemV x), .pointer (some ⟨bm, 0, none⟩)] w (Ret w fun r _ => Tells (¬ ItemOK M x) r) := by
  have B := Cells.new w (itemV x) 48
  have TM := Lib.hid (hb.grow B.1)
  have HM := Lib.hid (hm.grow B.1)
  have HX := Lib.hid (hx.grow B.1)
  have G := Lib.hid B.1
  have x0 := B.2.at 0 rfl
  have x1 := B.2.at 1 rfl
  have x2 := B.2.at 2 rfl
  have x3 := B.2.at 3 rfl
  have x4 := B.2.at 4 rfl
  have x5 := B.2.at 5 rfl
  have x6 := B.2.at 6 rfl
  clear B hb hm hx
  have m0 := mc0 TM.out _ (Gr.refl _)
  have m1 := mc1 TM.out _ (Gr.refl _)
  have m2 := mc2 TM.out _ (Gr.refl _)
  have m3 := mc3 TM.out _ (Gr.refl _)
  have m4 := mc4 TM.out _ (Gr.refl _)
  have m5 := mc5 TM.out _ (Gr.refl _)
  have m6 := mc6 TM.out _ (Gr.refl _)
  have m7 := mc7 TM.out _ (Gr.refl _)
  have m8 := mc8 TM.out _ (Gr.refl _)
  have m9 := mc9 TM.out _ (Gr.refl _)
  have m10 := mc10 TM.out _ (Gr.refl _)
  unfold itemV at *
  go_enter Tryz.func80, Tryz.ntmps80
  go_wp2_with fail
  clear m0 m1 m2 m3 m4 m5 m6 m7 m8 m9 m10 x0 x1 x2 x3 x4 x5 x6
  refine (cat_validItem _ P M x HM.out HX.out hl).mono ?_
  rintro _ w1 ⟨v1, rfl, g1, h1⟩
  have G := Lib.hid (G.out.trans g1)
  rcases h1.cases with ⟨rfl, k1⟩ | ⟨rfl, k1⟩ <;> have H1 := Lib.hid k1 <;> clear k1 h1 g1
  · go_wp2_with fail
    go_ret
    exact ⟨_, rfl, G.out, Tells.no fun h => h H1.out⟩
  · go_wp2_with fail
    go_ret
    exact ⟨_, rfl, G.out, Tells.yes H1.out⟩
set_option maxRecDepth 100000 in
theorem valid_2 (w : World) (P : Ptrs) (M : Mdl) (bm : Nat) (x : RuleM) (hb : Cells w bm (mcells P M)) (hm : MdlAt w P M) (hx : RuleMs w x) (hl : x.ms.length ≤ 1000000) :
    Calls Tryz.prog 83 #[.agg (ruleV x), .pointer (some ⟨bm, 0, none⟩)] w (Ret w fun r _ => Tells (¬ RuleOK M x) r) := by
  have B := Cells.new w (ruleV x) 66
  have TM := Lib.hid (hb.grow B.1)
  have HM := Lib.hid (hm.grow B.1)
  have HX := Lib.hid (hx.grow B.1)
  have G := Lib.hid B.1
  have x0 := B.2.at 0 rfl
  have x1 := B.2.at 1 rfl
  have x2 := B.2.at 2 rfl
  have x3 := B.2.at 3 rfl
  have x4 := B.2.at 4 rfl
  have x5 := B.2.at 5 rfl
  have x6 := B.2.at 6 rfl
  clear B hb hm hx
  have m0 := mc0 TM.out _ (Gr.refl _)
  have m1 := mc1 TM.out _ (Gr.refl _)
  have m2 := mc2 TM.out _ (Gr.refl _)
  have m3 := mc3 TM.out _ (Gr.refl _)
  have m4 := mc4 TM.out _ (Gr.refl _)
  have m5 := mc5 TM.out _ (Gr.refl _)
  have m6 := mc6 TM.out _ (Gr.refl _)
  have m7 := mc7 TM.out _ (Gr.refl _)
  have m8 := mc8 TM.out _ (Gr.refl _)
  have m9 := mc9 TM.out _ (Gr.refl _)
  have m10 := mc10 TM.out _ (Gr.refl _)
  unfold ruleV at *
  go_enter Tryz.func83, Tryz.ntmps83
  go_wp2_with fail
  clear m0 m1 m2 m3 m4 m5 m6 m7 m8 m9 m10 x0 x1 x2 x3 x4 x5 x6
  refine (cat_validRule _ P M x HM.out HX.out hl).mono ?_
  rintro _ w1 ⟨v1, rfl, g1, h1⟩
  have G := Lib.hid (G.out.trans g1)
  rcases h1.cases with ⟨rfl, k1⟩ | ⟨rfl, k1⟩ <;> have H1 := Lib.hid k1 <;> clear k1 h1 g1
  · go_wp2_with fail
    go_ret
    exact ⟨_, rfl, G.out, Tells.no fun h => h H1.out⟩
  · go_wp2_with fail
    go_ret
    exact ⟨_, rfl, G.out, Tells.yes H1.out⟩
theorem prd_1 (w : World) (P : Ptrs) (M : Mdl) (bm : Nat) (hb : Cells w bm (mcells P M)) (hm : MdlAt w P M) (hf : Few M) :
    PrdIn w (.func (.func 80) #[] #[.pointer (some ⟨bm, 0, none⟩)]) encItem M.items (fun x => ¬ ItemOK M x) :=
  ⟨_, _, rfl, enters_of Tryz.func80 (by kernel_rfl) rfl, fun w' g x hx => valid_1 w' P M bm x (hb.grow g) (hm.grow g) ((hm.grow g).ons x hx) (by have := (hf.2.2.2.2.2.1 x hx).2; omega)⟩
theorem prd_2 (w : World) (P : Ptrs) (M : Mdl) (bm : Nat) (hb : Cells w bm (mcells P M)) (hm : MdlAt w P M) (hf : Few M) :
    PrdIn w (.func (.func 83) #[] #[.pointer (some ⟨bm, 0, none⟩)]) encRule M.rules (fun x => ¬ RuleOK M x) :=
  ⟨_, _, rfl, enters_of Tryz.func83 (by kernel_rfl) rfl, fun w' g x hx => valid_2 w' P M bm x (hb.grow g) (hm.grow g) ((hm.grow g).mss x hx) (by have := hf.2.2.2.2.2.2 x hx; omega)⟩
end Go.Proofs.YtdekicijinmakaaGreatDoor
namespace Go.Proofs.YtdekicijinmakaaGreatDoor
open Go.RowKit Go.Lib Lex
set_option linter.unusedVariables false
set_option linter.unusedSimpArgs false

theorem str_key {s : ByteArray} : MapKept.IsKey .string (.string s) := by unfold MapKept.IsKey; trivial
theorem str_ne {s x : List UInt8} (e : s ≠ x) : ((⟨s.toArray⟩ : ByteArray) == ⟨x.toArray⟩) = false := by
  cases hq : ((⟨s.toArray⟩ : ByteArray) == ⟨x.toArray⟩) with
  | false => rfl
  | true => exact absurd ((MapKept.bytes_beq _ _).1 hq) (str_inj e)
def seenL (l : List (List UInt8)) : List (Value × Value) := l.map fun s => (.string ⟨s.toArray⟩, .bool true)
theorem fkv_yes (s : List UInt8) : ∀ l : List (List UInt8), s ∈ l → fkv .string (.string ⟨s.toArray⟩) (seenL l) = some (some (.bool true))
  | [], h => by simp at h
  | x :: l, h => by
    have ih := fkv_yes s l
    unfold seenL at ih ⊢
    rw [List.map_cons]
    unfold fkv
    by_cases e : s = x
    · subst e
      have e2 : ((⟨s.toArray⟩ : ByteArray) == ⟨s.toArray⟩) = true := MapKept.bytes_beq _ _ |>.2 rfl
      simp only [Instr.sameNow, e2]
    · have e2 : ((⟨s.toArray⟩ : ByteArray) == ⟨x.toArray⟩) = false := str_ne e
      simp only [Instr.sameNow, e2]
      exact ih ((List.mem_cons.1 h).resolve_left e)
theorem fkv_no (s : List UInt8) : ∀ l : List (List UInt8), ¬ s ∈ l → fkv .string (.string ⟨s.toArray⟩) (seenL l) = some none
  | [], _ => rfl
  | x :: l, h => by
    have ih := fkv_no s l
    unfold seenL at ih ⊢
    rw [List.map_cons]
    unfold fkv
    have e : s ≠ x := fun e => h (by rw [e]; exact List.mem_cons_self)
    have e2 : ((⟨s.toArray⟩ : ByteArray) == ⟨x.toArray⟩) = false := str_ne e
    simp only [Instr.sameNow, e2]
    exact ih (fun hm => h (List.mem_cons_of_mem _ hm))
theorem seen_yes {w : World} {r : Nat} {l : List (List UInt8)} (h : MapAt w r (seenL l)) {s : List UInt8} (hs : s ∈ l) :
    (Instr.lookup 88 (.map (some r)) (.string ⟨s.toArray⟩) false).run Tryz.prog w = .ok (.bool true) w :=
  (run_lookup_kv h Tryz.underlying88 Tryz.underlying9 str_key (fkv_yes s l hs)).1
theorem seen_no {w : World} {r : Nat} {l : List (List UInt8)} (h : MapAt w r (seenL l)) {s : List UInt8} (hs : ¬ s ∈ l) :
    (Instr.lookup 88 (.map (some r)) (.string ⟨s.toArray⟩) false).run Tryz.prog w = .ok (.bool false) w :=
  (run_lookup_none h Tryz.underlying88 Tryz.underlying9 str_key (by kernel_rfl) (fkv_no s l hs)).1
theorem seen_add {w : World} {r : Nat} {l : List (List UInt8)} (h : MapAt w r (seenL l)) {s : List UInt8} (hs : ¬ s ∈ l) :
    ∃ w', (Instr.mapUpdate 88 (.map (some r)) (.string ⟨s.toArray⟩) (.bool true)).run Tryz.prog w = .ok () w' ∧ MapAt w' r (seenL (l ++ [s])) ∧ w.grownBy w' (some r) ∧ ∀ w0, Gr w0 w → w0.heap.size ≤ r → Gr w0 w' := by
  obtain ⟨w', h1, h2, h3, h4⟩ := run_store_new h (.bool true) Tryz.underlying88 Tryz.underlying9 (key := .string ⟨s.toArray⟩) str_key (fkv_no s l hs)
  exact ⟨w', h1, by unfold seenL at h2 ⊢; simpa using h2, h3, h4⟩
theorem MapAt.apart {w : World} {r b o : Nat} {m : List (Value × Value)} {u : Value} (h : MapAt w r m) (hc : w.cell? ⟨b, o, none⟩ = some u) : b ≠ r := fun e => by
  subst e
  obtain ⟨es, c, h1, _⟩ := h
  unfold World.cell? at hc
  simp [h1] at hc
theorem SlV.keptMap {w w' : World} {sz n r : Nat} {v : Value} {xs : List Value} {m : List (Value × Value)} (h : SlV w sz v n xs) (hm : MapAt w r m) (g : w.grownBy w' (some r)) : SlV w' sz v n xs := by
  obtain ⟨h0, p, c, rfl, h1, h2, h3⟩ := h
  refine ⟨h0, p, c, rfl, h1, h2, ?_⟩
  rcases h3 with h3 | ⟨b, o, hp, hc⟩
  · exact .inl h3
  · refine .inr ⟨b, o, hp, fun j u hu => ?_⟩
    have hcc := hc j u hu
    have hne := hm.apart hcc
    have hlt := World.block_lt_of_cell? w _ hcc
    have hb := g.block b hlt (fun e => hne (by injection e))
    unfold World.cell? at hcc ⊢
    rw [show (⟨b, o + j, none⟩ : Addr).block = b from rfl] at hcc ⊢
    rw [hb]; exact hcc
end Go.Proofs.YtdekicijinmakaaGreatDoor

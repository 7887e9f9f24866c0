/-
  append to a row of the call's own: where the grown row lies.
  catalog.Names: its closure.
  catalog.Names.
  ContainsFunc of items and rules, with a predicate that speaks of the row's elements; the closures of catalog.Valid.
  The closures of catalog.Valid.
  A set of strings by a map[string]bool of the call's own; a row behind it stays.
-/
import Derived.Test.YtnlocdijdfclcaaGreatDoorSlc
import Derived.Test.YtnlocdijdfclcaaGreatDoorCatS
namespace Go.Proofs.YtnlocdijdfclcaaGreatDoor
open Go.RowKit
set_option linter.unusedVariables false
set_option linter.unusedSimpArgs false

section append
variable {α : Type} {enc : α → List Value} {sz : Nat} {P : Program} {ops : Array Oper} {rest : List Oper} {o : Oper} {a : Act} {Q : Exit → Act → World → Prop} {w : World}
theorem append_block (t ty e : TypeId) (z : Value) (bytes : Nat) (ht : P.underlying t = some (.slice e)) (hinfo : (P.info? e).map (fun i => (i.zero, i.size, i.bytes)) = some (some z, sz, bytes)) (hzs : z.cells.size = sz) (hsz : 0 < sz) (he : ∀ x, (enc x).length = sz) (h1 : ∀ x, ∀ u ∈ enc x, u.oneCell' = true)
  (base : Nat) (v vx : Value) (l m : List α) (hown : OwnL w base e sz enc v l) (hm : SlL w sz enc vx m)
  (hlen : (l.length + m.length) * bytes ≤ 140737488355328) (hlen2 : l.length + m.length ≤ 1000000000000) (hbase : base ≤ w.heap.size) (hpos : 0 < m.length) :
  ∃ v' w', (Builtin.append_ #[t, t] ty #[v, vx]).run P w = .ok v' w' ∧ OwnL w' base e sz enc v' (l ++ m) ∧ w.grownBy w' v.ownBlock ∧ (v'.ownBlock = v.ownBlock ∨ v'.ownBlock = some w.heap.size) := by
 obtain ⟨i0, hi, hz0, hz1, hz2⟩ := info_parts hinfo
 obtain ⟨hd, p, c, rfl, k1, k2, k3⟩ := hm
 rcases k3 with rfl | ⟨b, off, rfl, hc⟩
 ·omega
 ·have hnews : ∀ j u, (m.flatMap enc)[j]? = some u → w.cell? ((⟨b, off, none⟩ : Addr).add j) = some u := fun j u hu => by rw [addr_add0]; exact hc j u hu
  have hone : ∀ u ∈ m.flatMap enc, u.oneCell' = true := fun u hu => by
   obtain ⟨y, _, hy⟩ := List.mem_flatMap.1 hu
   exact h1 y u hy
  have hml := flat_len he m
  obtain ⟨v', w', hr, h2, h3, _⟩ := run_append_own (P := P) w base t ty e i0 z sz bytes ht hi hz0 hz1 hz2 hzs hsz v l.length (l.flatMap enc) hown ⟨b, off, none⟩ m.length c (m.flatMap enc) hml hnews hone (by unfold maxLen; omega) hlen hbase
  have hblk : v'.ownBlock = v.ownBlock ∨ v'.ownBlock = some w.heap.size := by
   subst hz1
   subst hz2
   have hown2 := hown.2
   rcases hown2 with ⟨rfl, h0⟩ | ⟨g, cap, cur, rfl, hbg, hg, hnc, hcm, hcs, htake⟩
   ·have hr2 := run_append_nil (P := P) w t ty e i0 z ht hi hz0 ⟨b, off, none⟩ m.length c (m.flatMap enc) hml hnews hpos (by omega) (by have := hlen; rw [h0] at this; simp only [Nat.zero_add] at this; omega)
    have e1 := hr.symm.trans hr2
    injection e1 with e2 e3
    subst e2
    exact .inr rfl
   ·by_cases hroom : l.length + m.length ≤ cap
    ·have hfit : l.length * i0.size + (m.flatMap enc).length ≤ cur.size := by rw [hml, hcs, ← Nat.add_mul]; exact Nat.mul_le_mul_right _ hroom
     have hr2 := run_append_room (P := P) w t ty e i0 ht hi g l.length cap cur hg ⟨b, off, none⟩ m.length c (m.flatMap enc) hml hnews hone hroom hfit
     have e1 := hr.symm.trans hr2
     injection e1 with e2 e3
     subst e2
     exact .inl rfl
    ·have holds : ∀ j u, (l.flatMap enc)[j]? = some u → w.cell? ((⟨g, 0, none⟩ : Addr).add j) = some u := World.ownsRow.cells (show w.ownsRow base e i0.size _ l.length (l.flatMap enc) from hown) (g := g) rfl
     have hr2 := run_append_grow (P := P) w t ty e i0 z ht hi hz0 ⟨g, 0, none⟩ l.length cap (l.flatMap enc) hown.1 holds ⟨b, off, none⟩ m.length c (m.flatMap enc) hml hnews (by omega) (by omega) (growslice_fits (by omega) hlen)
     have e1 := hr.symm.trans hr2
     injection e1 with e2 e3
     subst e2
     exact .inr rfl
  refine ⟨v', w', hr, ?_, h3, hblk⟩
  unfold OwnL
  rw [List.flatMap_append, List.length_append]
  exact h2
theorem wpList_appendB (hgd : o.guard = none) (s x : Operand) (t e : TypeId) (z : Value) (bytes : Nat) (ho : o.op = .call { callee := .builtin .append, args := #[s, x], argTypes := #[t, t] })
  (ht : P.underlying t = some (.slice e)) (hinfo : (P.info? e).map (fun i => (i.zero, i.size, i.bytes)) = some (some z, sz, bytes)) (hzs : z.cells.size = sz) (hsz : 0 < sz) (he : ∀ x, (enc x).length = sz) (h1 : ∀ x, ∀ u ∈ enc x, u.oneCell' = true)
  (base : Nat) (v vx : Value) (l m : List α) (hs : a.eval s = v) (hown : OwnL w base e sz enc v l) (hx : a.eval x = vx) (hm : SlL w sz enc vx m)
  (hlen : (l.length + m.length) * bytes ≤ 140737488355328) (hlen2 : l.length + m.length ≤ 1000000000000) (hbase : base ≤ w.heap.size) (hpos : 0 < m.length)
  (h : ∀ v' w', OwnL w' base e sz enc v' (l ++ m) → w.grownBy w' v.ownBlock → (v'.ownBlock = v.ownBlock ∨ v'.ownBlock = some w.heap.size) → wpList P ops Q rest (a.put o.dst v') w') : wpList P ops Q (o :: rest) a w := by
 obtain ⟨v', w', hr, h2, h3, h4⟩ := append_block (ty := o.type) t e z bytes ht hinfo hzs hsz he h1 base v vx l m hown hm hlen hlen2 hbase hpos
 refine wpList_plain hgd (fun K hK => ?_)
 unfold Oper.wp execOp
 simp only [ho, resolve, invoke, builtin, Sem.run_bind, Sem.run_pure, Result.andThen_ok, List.map_toArray, List.map_cons, List.map_nil, hs, hx, hr]
 exact hK _ _ (h v' w' h2 h3 h4)
end append
end Go.Proofs.YtnlocdijdfclcaaGreatDoor
namespace Go.Proofs.YtnlocdijdfclcaaGreatDoor
open Go.RowKit Go.Lib Lex
set_option linter.unusedVariables false
set_option linter.unusedSimpArgs false

def NI (B : World) (b3 : Nat) (F : Nat → Prop) (l : List (List UInt8)) (w : World) : Prop := ∃ v, Cells w b3 #[v] ∧ OwnS w B.heap.size v l ∧ Gr B w ∧ B.heap.size ≤ b3 ∧ ¬ F b3 ∧ (∀ b, v.ownBlock = some b → ¬ F b ∧ b ≠ b3) ∧ (∀ b, F b → b < w.heap.size)
theorem NI.grow {B w w' : World} {b3 : Nat} {F : Nat → Prop} {l : List (List UInt8)} (h : NI B b3 F l w) (g : Gr w w') : NI B b3 (fun b => F b ∨ (w.heap.size ≤ b ∧ b < w'.heap.size)) l w' := by
 obtain ⟨v, h1, h2, h3, h4, h5, h6, h7⟩ := h
 refine ⟨v, h1.grow g, h2.grow g, h3.trans g, h4, ?_, fun b hb => ⟨?_, (h6 b hb).2⟩, ?_⟩
 ·rintro (h | ⟨h, _⟩)
  ·exact h5 h
  ·have := h1.lt; omega
 ·rintro (h | ⟨h, _⟩)
  ·exact (h6 b hb).1 h
  ·have := (h2.lt b hb).2; omega
 ·rintro b (h | ⟨_, h⟩)
  ·have := h7 b h; have := g.size; omega
  ·exact h
theorem own_set {w : World} {base b3 : Nat} {v u : Value} {l : List (List UInt8)} (h : OwnS w base v l) (hne : v.ownBlock ≠ some b3) : OwnS (w.setCell ⟨b3, 0, none⟩ u) base v l := by
 refine World.ownsRow.kept (row := some b3) h ⟨rfl, rfl, rfl, ?_, fun k hk hn => Below.heap_setCell _ _ _ _ (fun e => hn (congrArg some e))⟩ (.inr hne)
 simp [World.setCell]
set_option maxRecDepth 100000 in
theorem names_clo (w B : World) (b3 : Nat) (F : Nat → Prop) (l : List (List UInt8)) (s : List UInt8) (kd n : Int) (h : NI B b3 F l w) (hl : l.length ≤ 1000) :
  Calls Tryz.prog 112 #[.string ⟨s.toArray⟩, .int .i64 kd, .int .i64 n, .pointer (some ⟨b3, 0, none⟩)] w fun r w' => r = .returned (.bool false) ∧ w.heap.size ≤ w'.heap.size ∧
   (∀ b, F b → b < w.heap.size → w'.heap[b]? = w.heap[b]?) ∧ NI B b3 F (l ++ [s]) w' := by
 obtain ⟨v, h1, h2, h3, h4, h5, h6, h7⟩ := h
 have T3 := Lib.hid h1
 have HO := Lib.hid h2
 have HG := Lib.hid h3
 have HB := Lib.hid h4
 have HF3 := Lib.hid h5
 have HFv := Lib.hid h6
 have HFl := Lib.hid h7
 clear h1 h2 h3 h4 h5 h6 h7
 have d0 := T3.out.at 0 rfl
 go_enter Tryz.func112, Tryz.ntmps112
 go_wp2_with (at_builtin; refine Hold.hold ?_)
 clear d0
 have B8 := SlL.new w 9 encS_len [s] #[.string ⟨s.toArray⟩] 1 rfl rfl (by decide)
 have hz : (w.alloc (.cells #[.string ⟨s.toArray⟩] 9)).heap.size = w.heap.size + 1 := World.size_alloc _ _
 have hkeep : ∀ b, b < w.heap.size → (w.alloc (.cells #[.string ⟨s.toArray⟩] 9)).heap[b]? = w.heap[b]? := fun b hb => by first | exact heap_alloc_old w _ hb | exact Go.heap_alloc_old w _ b hb | exact (MapKept.heap_alloc w _).2 b hb
 generalize hb8 : w.heap.size = b8 at B8 hz hkeep ⊢
 generalize w.alloc _ = w8 at B8 hz hkeep ⊢
 obtain ⟨g8, t8⟩ := B8
 have Hb8 := Lib.hid hb8
 refine Hold.go ?_
 refine wpList_appendB rfl _ _ 22 9 _ 16 rfl Tryz.underlying22 str_info rfl (by decide) encS_len encS_one B.heap.size v _ l [s] rfl (HO.out.grow g8) rfl t8 (by simp; omega) (by simp; omega) ((HG.out.trans g8).size) (by simp) ?_
 intro v' w9 ho9 k9 hblk
 obtain ⟨p9, c9, rfl, _, _⟩ := (OwnL.read ho9).parts
 have hne3 : some b3 ≠ v.ownBlock := fun e => (HFv.out b3 e.symm).2 rfl
 have T9 := (T3.out.grow g8).grown k9 hne3
 have hlt3 := T3.out.lt
 have hne9 : (Value.slice p9 (l ++ [s]).length c9).ownBlock ≠ some b3 := by
  rcases hblk with e | e
  ·rw [e]; exact hne3.symm
  ·rw [e, hz]; intro e; injection e with e; omega
 have G9 := (HO.out.grow g8).gr (HG.out.trans g8) k9
 have d0 := T9.at 0 rfl
 have f0 := Cells.f T9 0
 have HX := Lib.hid (show NI B b3 F (l ++ [s]) (w9.setCell ⟨b3, 0, none⟩ (.slice p9 (l ++ [s]).length c9)) from by
  refine ⟨(.slice p9 (l ++ [s]).length c9), ?_, own_set ho9 hne9, G9.set (by have := HB.out; omega) _, HB.out, HF3.out, fun b hb => ⟨fun hf => ?_, fun e => hne9 (by rw [hb, e])⟩, fun b hb => ?_⟩
  ·have := T9.set 0 (.slice p9 (l ++ [s]).length c9)
   simpa using this
  ·rcases hblk with e | e
   ·exact (HFv.out b (e ▸ hb)).1 hf
   ·have := HFl.out b hf
    rw [e, hz] at hb
    injection hb with hb
    omega
  ·have h1 := HFl.out b hb
   have h2 := k9.size
   have h3 : (w9.setCell ⟨b3, 0, none⟩ (.slice p9 (l ++ [s]).length c9)).heap.size = w9.heap.size := by simp [World.setCell]
   omega)
 have HK := Lib.hid (show ∀ b, F b → b < b8 → (w9.setCell ⟨b3, 0, none⟩ (.slice p9 (l ++ [s]).length c9)).heap[b]? = w.heap[b]? from fun b hb hlt => by
  rw [Below.heap_setCell _ _ _ _ (fun e => HF3.out (by have e : b = b3 := e; exact e ▸ hb)), k9.block b (by omega) (fun e => (HFv.out b e.symm).1 hb), hkeep b hlt])
 have HZ := Lib.hid (show b8 ≤ (w9.setCell ⟨b3, 0, none⟩ (.slice p9 (l ++ [s]).length c9)).heap.size from by
  have h2 := k9.size
  have h3 : (w9.setCell ⟨b3, 0, none⟩ (.slice p9 (l ++ [s]).length c9)).heap.size = w9.heap.size := by simp [World.setCell]
  omega)
 clear hb8 T9 G9 hblk hne9 hne3 k9 ho9 hkeep hz g8 t8 hlt3
 go_wp2_with fail
 go_ret
 have e : (l ++ [s]).length = l.length + 1 := by simp
 have z := HZ.out
 have k := HK.out
 have x := HX.out
 rw [e] at z k x
 exact ⟨rfl, Hb8.out ▸ z, fun b hb hlt => k b hb (Hb8.out ▸ hlt), x⟩
end Go.Proofs.YtnlocdijdfclcaaGreatDoor
namespace Go.Proofs.YtnlocdijdfclcaaGreatDoor
open Go.RowKit Go.Lib Lex
set_option linter.unusedVariables false
set_option linter.unusedSimpArgs false

theorem numbered_names {α : Type} (f : α → List UInt8 × Int) (l : List α) : (numbered f l).map Prod.fst = l.map fun x => (f x).1 := by
 apply List.ext_getElem?
 intro i
 simp [numbered]
 cases l[i]? <;> rfl
theorem entries_names (M : Mdl) : (entries M).map Prod.fst = names M := by
 unfold entries secs names sec0 sec1 sec2 sec3 sec4
 simp only [List.flatten_cons, List.flatten_nil, List.append_nil, List.map_append, numbered_names]
 simp only [List.map_id']
theorem entries_len (M : Mdl) : (entries M).length = (names M).length := by rw [← entries_names, List.length_map]
theorem names_visit (B : World) (b3 : Nat) (M : Mdl) (hf : Few M) : Visit B 112 #[.pointer (some ⟨b3, 0, none⟩)] (entries M) (fun F k w => NI B b3 F ((names M).take k) w) (fun _ => False) where
 enters := enters_of Tryz.func112 (by kernel_rfl) rfl
 base F k w h := by obtain ⟨v, _, _, h3, _⟩ := h; exact h3
 grow F k w w' h g := NI.grow h g
 step F k e w he h := by
  refine (names_clo w B b3 F ((names M).take k) e.1 e.2.1 e.2.2 h (by have := names_len hf; rw [List.length_take]; omega)).mono ?_
  rintro _ w' ⟨rfl, h1, h2, h3⟩
  refine ⟨false, rfl, h1, h2, by simp, fun _ => ?_⟩
  have : (names M)[k]? = some e.1 := by rw [← entries_names, List.getElem?_map, he]; rfl
  show NI B b3 F ((names M).take (k + 1)) w'
  rw [List.take_add_one, this]
  exact h3
set_option maxRecDepth 100000 in
theorem cat_Names (w : World) (P : Ptrs) (M : Mdl) (hm : MdlAt w P M) (hf : Few M) :
  Calls Tryz.prog 68 #[.agg (mcells P M)] w (Ret w fun r w' => StrL w' r (names M)) := by
 have HM := Lib.hid hm
 have HF := Lib.hid hf
 have B0 := Cells.new w (mcells P M) 29
 have B1 := Cells.new (w.alloc (.cells (mcells P M) 29)) #[.slice none 0 0] 22
 have hz := World.size_alloc w (.cells (mcells P M) 29)
 clear hm hf
 have m0 := mc0 B0.2 _ B1.1
 have m1 := mc1 B0.2 _ B1.1
 have m2 := mc2 B0.2 _ B1.1
 have m3 := mc3 B0.2 _ B1.1
 have m4 := mc4 B0.2 _ B1.1
 have m5 := mc5 B0.2 _ B1.1
 have m6 := mc6 B0.2 _ B1.1
 have m7 := mc7 B0.2 _ B1.1
 have m8 := mc8 B0.2 _ B1.1
 have m9 := mc9 B0.2 _ B1.1
 have m10 := mc10 B0.2 _ B1.1
 have H0 := Lib.hid B0.1
 have H1 := Lib.hid B1
 have HZ := Lib.hid hz
 clear B0 B1 hz
 unfold mcells at H0 H1 HZ m0 m1 m2 m3 m4 m5 m6 m7 m8 m9 m10 ⊢
 go_enter Tryz.func68, Tryz.ntmps68
 go_wp2_with fail
 clear m0 m1 m2 m3 m4 m5 m6 m7 m8 m9 m10
 rw [← HZ.out]
 generalize w.alloc _ = B at H0 H1 HZ ⊢
 obtain ⟨g1, t1⟩ := H1.out
 have h1 : NI B B.heap.size (fun b => b < B.heap.size) [] (B.alloc (.cells #[.slice none 0 0] 22)) :=
  ⟨_, t1, OwnL.nil _ _ _, g1, Nat.le_refl _, Nat.lt_irrefl _, fun b hb => (by cases hb), fun b hb => by have := g1.size; omega⟩
 generalize B.alloc _ = W at h1 g1 t1 H1 ⊢
 refine (cat_each W B P M 112 #[.pointer (some ⟨B.heap.size, 0, none⟩)] _ _ _ (HM.out.grow H0.out) HF.out (names_visit B B.heap.size M HF.out) h1).mono ?_
 rintro _ w2 ⟨rfl, h | ⟨F, h⟩⟩
 ·exact h.elim
 ·rw [entries_len] at h
  obtain ⟨v, t2, ho, g2, _⟩ := (show NI B B.heap.size F ((names M).take (names M).length) w2 from h)
  rw [List.take_length] at ho
  have HO := Lib.hid ho
  have G2 := Lib.hid g2
  have d := t2.at 0 rfl
  clear t2 ho g2 h h1 g1 t1
  obtain ⟨p, c, rfl, _, _⟩ := (OwnL.read HO.out).parts
  go_wp2_with fail
  go_ret
  exact ⟨_, rfl, H0.out.trans G2.out, OwnL.read HO.out⟩
end Go.Proofs.YtnlocdijdfclcaaGreatDoor
namespace Go.Proofs.YtnlocdijdfclcaaGreatDoor
open Go.RowKit Go.Lib Lex
set_option linter.unusedVariables false
set_option linter.unusedSimpArgs false

def PrdIn {α : Type} (w : World) (v : Value) (enc : α → List Value) (l : List α) (ok : α → Prop) : Prop := ∃ (f : Nat) (caps : Array Value), v = .func (.func f) #[] caps ∧ (∀ args w, (callFunc f args).run Tryz.prog w = .ok (.enter f args) w) ∧
 ∀ w', Gr w w' → ∀ x ∈ l, Calls Tryz.prog f (#[.agg (enc x).toArray] ++ caps) w' (Ret w' fun r _ => Tells (ok x) r)
set_option maxRecDepth 100000 in
theorem item_indexI (w : World) (p : Option Addr) (n c : Nat) (l : List ItemM) (v : Value) (ok : ItemM → Prop) (hl : SlL w 7 encItem (.slice p n c) l) (hn : l.length = n) (hb : n ≤ 1000000) (hv : PrdIn w v encItem l ok) :
  Calls Tryz.prog 117 #[.slice p n c, v] w (Ret w fun r _ => ∃ z : Int, r = .int .i64 z ∧ (0 ≤ z ↔ ∃ x ∈ l, ok x)) := by
 obtain ⟨f, caps, rfl, he, h5⟩ := hv
 have H5 := Lib.hid h5
 have HL := Lib.hid hl
 have HN := Lib.hid hn
 clear h5 hl hn
 go_enter Tryz.func117, Tryz.ntmps117
 go_wp2_with fail
 go_loopw [8] (fun i w1 => ∃ k : Nat, i = .int .i64 k ∧ k ≤ n ∧ (∀ j x, j < k → l[j]? = some x → ¬ ok x) ∧ Gr w w1) (fun i _ => n - (RowKit.intOf i).toNat)
 case atStart => exact ⟨0, rfl, Nat.zero_le _, fun j x hj => by omega, Gr.refl _⟩
 case round =>
  obtain ⟨k, rfl, hk, hp, hg⟩ := hrel
  have Hp := Lib.hid hp
  have G := Lib.hid hg
  clear hp hg
  by_cases hlt : k < n
  ·have hlt' : (k : Int) < (n : Int) := by omega
   obtain ⟨b, o, x, rfl, hx, hc⟩ := item_at HL.out HN.out hlt
   have HX := Lib.hid hx
   obtain ⟨c0, c1, c2, c3, c4, c5, c6⟩ := hc wr G.out
   clear hc hx
   go_wp2_with fail
   refine (H5.out wr G.out x (List.mem_of_getElem? HX.out)).mono ?_
   rintro _ w2 ⟨r2, rfl, g2, h2⟩
   have G := Lib.hid (G.out.trans g2)
   obtain ⟨t, rfl, ht⟩ := h2
   have Ht := Lib.hid ht
   clear g2 ht
   cases t
   ·go_wp2_with fail
    refine ⟨⟨k + 1, by go_num, by omega, fun j y hj hy => ?_, G.out⟩, by simp [RowKit.intOf]; omega⟩
    by_cases e : j = k
    ·subst e
     rw [HX.out] at hy
     cases hy
     exact fun h => absurd (Ht.out.2 h) (by decide)
    ·exact Hp.out j y (by omega) hy
   ·go_wp2_with fail
    go_ret
    exact ⟨_, rfl, G.out, (k : Int), rfl, ⟨fun _ => ⟨x, List.mem_of_getElem? HX.out, (by have := Ht.out; simpa using this)⟩, fun _ => by omega⟩⟩
  ·obtain rfl : n = k := by omega
   go_wp2_with fail
   go_ret
   refine ⟨_, rfl, G.out, -1, rfl, ⟨fun h => absurd h (by decide), fun ⟨x, hx, h⟩ => ?_⟩⟩
   obtain ⟨j, hj, e⟩ := List.mem_iff_getElem.1 hx
   exact absurd h (Hp.out j x (by rw [HN.out] at hj; exact hj) (by rw [List.getElem?_eq_getElem hj, e]))
theorem item_containsI (w : World) (p : Option Addr) (n c : Nat) (l : List ItemM) (v : Value) (ok : ItemM → Prop) (hl : SlL w 7 encItem (.slice p n c) l) (hn : l.length = n) (hb : n ≤ 1000000) (hv : PrdIn w v encItem l ok) :
  Calls Tryz.prog 70 #[.slice p n c, v] w (Ret w fun r _ => Tells (∃ x ∈ l, ok x) r) := by
 have H := Lib.hid (item_indexI w p n c l v ok hl hn hb hv)
 obtain ⟨f, caps, rfl, he, h5⟩ := hv
 clear hl hn h5
 go_enter Tryz.func70, Tryz.ntmps70
 go_wp2_with fail
 refine H.out.mono ?_
 rintro _ w2 ⟨_, rfl, g2, z, rfl, hz⟩
 have G := Lib.hid g2
 have Hz := Lib.hid hz
 clear g2 hz
 go_wp2_with fail
 go_ret
 exact ⟨_, rfl, G.out, decide (0 ≤ z), rfl, by rw [← Hz.out]; simp⟩
set_option maxRecDepth 100000 in
theorem rule_indexI (w : World) (p : Option Addr) (n c : Nat) (l : List RuleM) (v : Value) (ok : RuleM → Prop) (hl : SlL w 7 encRule (.slice p n c) l) (hn : l.length = n) (hb : n ≤ 1000000) (hv : PrdIn w v encRule l ok) :
  Calls Tryz.prog 122 #[.slice p n c, v] w (Ret w fun r _ => ∃ z : Int, r = .int .i64 z ∧ (0 ≤ z ↔ ∃ x ∈ l, ok x)) := by
 obtain ⟨f, caps, rfl, he, h5⟩ := hv
 have H5 := Lib.hid h5
 have HL := Lib.hid hl
 have HN := Lib.hid hn
 clear h5 hl hn
 go_enter Tryz.func122, Tryz.ntmps122
 go_wp2_with fail
 go_loopw [8] (fun i w1 => ∃ k : Nat, i = .int .i64 k ∧ k ≤ n ∧ (∀ j x, j < k → l[j]? = some x → ¬ ok x) ∧ Gr w w1) (fun i _ => n - (RowKit.intOf i).toNat)
 case atStart => exact ⟨0, rfl, Nat.zero_le _, fun j x hj => by omega, Gr.refl _⟩
 case round =>
  obtain ⟨k, rfl, hk, hp, hg⟩ := hrel
  have Hp := Lib.hid hp
  have G := Lib.hid hg
  clear hp hg
  by_cases hlt : k < n
  ·have hlt' : (k : Int) < (n : Int) := by omega
   obtain ⟨b, o, x, rfl, hx, hc⟩ := rule_at HL.out HN.out hlt
   have HX := Lib.hid hx
   obtain ⟨c0, c1, c2, c3, c4, c5, c6⟩ := hc wr G.out
   clear hc hx
   go_wp2_with fail
   refine (H5.out wr G.out x (List.mem_of_getElem? HX.out)).mono ?_
   rintro _ w2 ⟨r2, rfl, g2, h2⟩
   have G := Lib.hid (G.out.trans g2)
   obtain ⟨t, rfl, ht⟩ := h2
   have Ht := Lib.hid ht
   clear g2 ht
   cases t
   ·go_wp2_with fail
    refine ⟨⟨k + 1, by go_num, by omega, fun j y hj hy => ?_, G.out⟩, by simp [RowKit.intOf]; omega⟩
    by_cases e : j = k
    ·subst e
     rw [HX.out] at hy
     cases hy
     exact fun h => absurd (Ht.out.2 h) (by decide)
    ·exact Hp.out j y (by omega) hy
   ·go_wp2_with fail
    go_ret
    exact ⟨_, rfl, G.out, (k : Int), rfl, ⟨fun _ => ⟨x, List.mem_of_getElem? HX.out, (by have := Ht.out; simpa using this)⟩, fun _ => by omega⟩⟩
  ·obtain rfl : n = k := by omega
   go_wp2_with fail
   go_ret
   refine ⟨_, rfl, G.out, -1, rfl, ⟨fun h => absurd h (by decide), fun ⟨x, hx, h⟩ => ?_⟩⟩
   obtain ⟨j, hj, e⟩ := List.mem_iff_getElem.1 hx
   exact absurd h (Hp.out j x (by rw [HN.out] at hj; exact hj) (by rw [List.getElem?_eq_getElem hj, e]))
theorem rule_containsI (w : World) (p : Option Addr) (n c : Nat) (l : List RuleM) (v : Value) (ok : RuleM → Prop) (hl : SlL w 7 encRule (.slice p n c) l) (hn : l.length = n) (hb : n ≤ 1000000) (hv : PrdIn w v encRule l ok) :
  Calls Tryz.prog 73 #[.slice p n c, v] w (Ret w fun r _ => Tells (∃ x ∈ l, ok x) r) := by
 have H := Lib.hid (rule_indexI w p n c l v ok hl hn hb hv)
 obtain ⟨f, caps, rfl, he, h5⟩ := hv
 clear hl hn h5
 go_enter Tryz.func73, Tryz.ntmps73
 go_wp2_with fail
 refine H.out.mono ?_
 rintro _ w2 ⟨_, rfl, g2, z, rfl, hz⟩
 have G := Lib.hid g2
 have Hz := Lib.hid hz
 clear g2 hz
 go_wp2_with fail
 go_ret
 exact ⟨_, rfl, G.out, decide (0 ≤ z), rfl, by rw [← Hz.out]; simp⟩
end Go.Proofs.YtnlocdijdfclcaaGreatDoor
namespace Go.Proofs.YtnlocdijdfclcaaGreatDoor
open Go.RowKit Go.Lib Lex
set_option linter.unusedVariables false
set_option linter.unusedSimpArgs false

set_option maxRecDepth 100000 in
theorem valid_1 (w : World) (P : Ptrs) (M : Mdl) (bm : Nat) (x : ItemM) (hb : Cells w bm (mcells P M)) (hm : MdlAt w P M) (hx : ItemOn w x) (hl : x.on.length ≤ 1000000) :
  Calls Tryz.prog 71 #[.agg (itemV x), .pointer (some ⟨bm, 0, none⟩)] w (Ret w fun r _ => Tells (¬ ItemOK M x) r) := by
 have B := Cells.new w (itemV x) 61
 have TM := Lib.hid (hb.grow B.1)
 have HM := Lib.hid (hm.grow B.1)
 have HX := Lib.hid (hx.grow B.1)
 have G := Lib.hid B.1
 have x0 := B.2.at 0 rfl
 have x1 := B.2.at 1 rfl
 have x2 := B.2.at 2 rfl
 have x3 := B.2.at 3 rfl
 have x4 := B.2.at 4 rfl
 have x5 := B.2.at 5 rfl
 have x6 := B.2.at 6 rfl
 clear B hb hm hx
 have m0 := mc0 TM.out _ (Gr.refl _)
 have m1 := mc1 TM.out _ (Gr.refl _)
 have m2 := mc2 TM.out _ (Gr.refl _)
 have m3 := mc3 TM.out _ (Gr.refl _)
 have m4 := mc4 TM.out _ (Gr.refl _)
 have m5 := mc5 TM.out _ (Gr.refl _)
 have m6 := mc6 TM.out _ (Gr.refl _)
 have m7 := mc7 TM.out _ (Gr.refl _)
 have m8 := mc8 TM.out _ (Gr.refl _)
 have m9 := mc9 TM.out _ (Gr.refl _)
 have m10 := mc10 TM.out _ (Gr.refl _)
 unfold itemV at *
 go_enter Tryz.func71, Tryz.ntmps71
 go_wp2_with fail
 clear m0 m1 m2 m3 m4 m5 m6 m7 m8 m9 m10 x0 x1 x2 x3 x4 x5 x6
 refine (cat_validItem _ P M x HM.out HX.out hl).mono ?_
 rintro _ w1 ⟨v1, rfl, g1, h1⟩
 have G := Lib.hid (G.out.trans g1)
 rcases h1.cases with ⟨rfl, k1⟩ | ⟨rfl, k1⟩ <;> have H1 := Lib.hid k1 <;> clear k1 h1 g1
 ·go_wp2_with fail
  go_ret
  exact ⟨_, rfl, G.out, Tells.no fun h => h H1.out⟩
 ·go_wp2_with fail
  go_ret
  exact ⟨_, rfl, G.out, Tells.yes H1.out⟩
set_option maxRecDepth 100000 in
theorem valid_2 (w : World) (P : Ptrs) (M : Mdl) (bm : Nat) (x : RuleM) (hb : Cells w bm (mcells P M)) (hm : MdlAt w P M) (hx : RuleMs w x) (hl : x.ms.length ≤ 1000000) :
  Calls Tryz.prog 74 #[.agg (ruleV x), .pointer (some ⟨bm, 0, none⟩)] w (Ret w fun r _ => Tells (¬ RuleOK M x) r) := by
 have B := Cells.new w (ruleV x) 63
 have TM := Lib.hid (hb.grow B.1)
 have HM := Lib.hid (hm.grow B.1)
 have HX := Lib.hid (hx.grow B.1)
 have G := Lib.hid B.1
 have x0 := B.2.at 0 rfl
 have x1 := B.2.at 1 rfl
 have x2 := B.2.at 2 rfl
 have x3 := B.2.at 3 rfl
 have x4 := B.2.at 4 rfl
 have x5 := B.2.at 5 rfl
 have x6 := B.2.at 6 rfl
 clear B hb hm hx
 have m0 := mc0 TM.out _ (Gr.refl _)
 have m1 := mc1 TM.out _ (Gr.refl _)
 have m2 := mc2 TM.out _ (Gr.refl _)
 have m3 := mc3 TM.out _ (Gr.refl _)
 have m4 := mc4 TM.out _ (Gr.refl _)
 have m5 := mc5 TM.out _ (Gr.refl _)
 have m6 := mc6 TM.out _ (Gr.refl _)
 have m7 := mc7 TM.out _ (Gr.refl _)
 have m8 := mc8 TM.out _ (Gr.refl _)
 have m9 := mc9 TM.out _ (Gr.refl _)
 have m10 := mc10 TM.out _ (Gr.refl _)
 unfold ruleV at *
 go_enter Tryz.func74, Tryz.ntmps74
 go_wp2_with fail
 clear m0 m1 m2 m3 m4 m5 m6 m7 m8 m9 m10 x0 x1 x2 x3 x4 x5 x6
 refine (cat_validRule _ P M x HM.out HX.out hl).mono ?_
 rintro _ w1 ⟨v1, rfl, g1, h1⟩
 have G := Lib.hid (G.out.trans g1)
 rcases h1.cases with ⟨rfl, k1⟩ | ⟨rfl, k1⟩ <;> have H1 := Lib.hid k1 <;> clear k1 h1 g1
 ·go_wp2_with fail
  go_ret
  exact ⟨_, rfl, G.out, Tells.no fun h => h H1.out⟩
 ·go_wp2_with fail
  go_ret
  exact ⟨_, rfl, G.out, Tells.yes H1.out⟩
theorem prd_1 (w : World) (P : Ptrs) (M : Mdl) (bm : Nat) (hb : Cells w bm (mcells P M)) (hm : MdlAt w P M) (hf : Few M) :
  PrdIn w (.func (.func 71) #[] #[.pointer (some ⟨bm, 0, none⟩)]) encItem M.items (fun x => ¬ ItemOK M x) :=
 ⟨_, _, rfl, enters_of Tryz.func71 (by kernel_rfl) rfl, fun w' g x hx => valid_1 w' P M bm x (hb.grow g) (hm.grow g) ((hm.grow g).ons x hx) (by have := (hf.2.2.2.2.2.1 x hx).2; omega)⟩
theorem prd_2 (w : World) (P : Ptrs) (M : Mdl) (bm : Nat) (hb : Cells w bm (mcells P M)) (hm : MdlAt w P M) (hf : Few M) :
  PrdIn w (.func (.func 74) #[] #[.pointer (some ⟨bm, 0, none⟩)]) encRule M.rules (fun x => ¬ RuleOK M x) :=
 ⟨_, _, rfl, enters_of Tryz.func74 (by kernel_rfl) rfl, fun w' g x hx => valid_2 w' P M bm x (hb.grow g) (hm.grow g) ((hm.grow g).mss x hx) (by have := hf.2.2.2.2.2.2 x hx; omega)⟩
end Go.Proofs.YtnlocdijdfclcaaGreatDoor
namespace Go.Proofs.YtnlocdijdfclcaaGreatDoor
open Go.RowKit Go.Lib Lex
set_option linter.unusedVariables false
set_option linter.unusedSimpArgs false

theorem str_key {s : ByteArray} : MapKept.IsKey .string (.string s) := by unfold MapKept.IsKey; trivial
theorem str_ne {s x : List UInt8} (e : s ≠ x) : ((⟨s.toArray⟩ : ByteArray) == ⟨x.toArray⟩) = false := by
 cases hq : ((⟨s.toArray⟩ : ByteArray) == ⟨x.toArray⟩) with
 | false => rfl
 | true => exact absurd ((MapKept.bytes_beq _ _).1 hq) (str_inj e)
def seenL (l : List (List UInt8)) : List (Value × Value) := l.map fun s => (.string ⟨s.toArray⟩, .bool true)
theorem fkv_yes (s : List UInt8) : ∀ l : List (List UInt8), s ∈ l → fkv .string (.string ⟨s.toArray⟩) (seenL l) = some (some (.bool true))
 | [], h => by simp at h
 | x :: l, h => by
  have ih := fkv_yes s l
  unfold seenL at ih ⊢
  rw [List.map_cons]
  unfold fkv
  by_cases e : s = x
  ·subst e
   have e2 : ((⟨s.toArray⟩ : ByteArray) == ⟨s.toArray⟩) = true := MapKept.bytes_beq _ _ |>.2 rfl
   simp only [Instr.sameNow, e2]
  ·have e2 : ((⟨s.toArray⟩ : ByteArray) == ⟨x.toArray⟩) = false := str_ne e
   simp only [Instr.sameNow, e2]
   exact ih ((List.mem_cons.1 h).resolve_left e)
theorem fkv_no (s : List UInt8) : ∀ l : List (List UInt8), ¬ s ∈ l → fkv .string (.string ⟨s.toArray⟩) (seenL l) = some none
 | [], _ => rfl
 | x :: l, h => by
  have ih := fkv_no s l
  unfold seenL at ih ⊢
  rw [List.map_cons]
  unfold fkv
  have e : s ≠ x := fun e => h (by rw [e]; exact List.mem_cons_self)
  have e2 : ((⟨s.toArray⟩ : ByteArray) == ⟨x.toArray⟩) = false := str_ne e
  simp only [Instr.sameNow, e2]
  exact ih (fun hm => h (List.mem_cons_of_mem _ hm))
theorem seen_yes {w : World} {r : Nat} {l : List (List UInt8)} (h : MapAt w r (seenL l)) {s : List UInt8} (hs : s ∈ l) :
  (Instr.lookup 90 (.map (some r)) (.string ⟨s.toArray⟩) false).run Tryz.prog w = .ok (.bool true) w :=
 (run_lookup_kv h Tryz.underlying90 Tryz.underlying9 str_key (fkv_yes s l hs)).1
theorem seen_no {w : World} {r : Nat} {l : List (List UInt8)} (h : MapAt w r (seenL l)) {s : List UInt8} (hs : ¬ s ∈ l) :
  (Instr.lookup 90 (.map (some r)) (.string ⟨s.toArray⟩) false).run Tryz.prog w = .ok (.bool false) w :=
 (run_lookup_none h Tryz.underlying90 Tryz.underlying9 str_key (by kernel_rfl) (fkv_no s l hs)).1
theorem seen_add {w : World} {r : Nat} {l : List (List UInt8)} (h : MapAt w r (seenL l)) {s : List UInt8} (hs : ¬ s ∈ l) :
  ∃ w', (Instr.mapUpdate 90 (.map (some r)) (.string ⟨s.toArray⟩) (.bool true)).run Tryz.prog w = .ok () w' ∧ MapAt w' r (seenL (l ++ [s])) ∧ w.grownBy w' (some r) ∧ ∀ w0, Gr w0 w → w0.heap.size ≤ r → Gr w0 w' := by
 obtain ⟨w', h1, h2, h3, h4⟩ := run_store_new h (.bool true) Tryz.underlying90 Tryz.underlying9 (key := .string ⟨s.toArray⟩) str_key (fkv_no s l hs)
 exact ⟨w', h1, by unfold seenL at h2 ⊢; simpa using h2, h3, h4⟩
theorem MapAt.apart {w : World} {r b o : Nat} {m : List (Value × Value)} {u : Value} (h : MapAt w r m) (hc : w.cell? ⟨b, o, none⟩ = some u) : b ≠ r := fun e => by
 subst e
 obtain ⟨es, c, h1, _⟩ := h
 unfold World.cell? at hc
 simp [h1] at hc
theorem SlV.keptMap {w w' : World} {sz n r : Nat} {v : Value} {xs : List Value} {m : List (Value × Value)} (h : SlV w sz v n xs) (hm : MapAt w r m) (g : w.grownBy w' (some r)) : SlV w' sz v n xs := by
 obtain ⟨h0, p, c, rfl, h1, h2, h3⟩ := h
 refine ⟨h0, p, c, rfl, h1, h2, ?_⟩
 rcases h3 with h3 | ⟨b, o, hp, hc⟩
 ·exact .inl h3
 ·refine .inr ⟨b, o, hp, fun j u hu => ?_⟩
  have hcc := hc j u hu
  have hne := hm.apart hcc
  have hlt := World.block_lt_of_cell? w _ hcc
  have hb := g.block b hlt (fun e => hne (by injection e))
  unfold World.cell? at hcc ⊢
  rw [show (⟨b, o + j, none⟩ : Addr).block = b from rfl] at hcc ⊢
  rw [hb]; exact hcc
end Go.Proofs.YtnlocdijdfclcaaGreatDoor

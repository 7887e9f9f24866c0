/-
  slices.Clone of units, placement.mapped, placement.with.
  placement.with.
-/
import Derived.Test.YtnlocdijdfclcaaGreatDoorPlB
import Derived.Test.YtnlocdijdfclcaaGreatDoorStij
import Derived.Test.YtnlocdijdfclcaaGreatDoorApp
import Derived.WalkSpells
import Derived.Test.YtnlocdijdfclcaaGreatDoorInv
namespace Go.Proofs.YtnlocdijdfclcaaGreatDoor
open Go.RowKit Go.Lib Lex
set_option linter.unusedVariables false
set_option linter.unusedSimpArgs false

namespace Stij
theorem wpE_fnS {P : Program} {ops : Array Oper} {Q : Exit → Act → World → Prop} {i : Nat} {rest : List (Nat × Bool)} {a : Act} {w : World} {o : Oper} {c : Call} {x : Operand} {f : FuncId} {first caps args : Array Value}
  (ho : ops[i]? = some o) (hw : Region.wanted o (yielded ops a.tmps) = true) (hop : o.op = .call c) (hc : c.callee = .value x) (hst : isStore o = true) (hx : a.eval x = .func (.func f) first caps)
  (he : ∀ args w, (callFunc f args).run P w = .ok (.enter f args) w) (hargs : (first ++ c.args.map a.eval) ++ caps = args)
  (h : ∀ K : Act → World → Prop, (∀ a w, wpE P ops Q rest a w → K a w) → Calls P f args w fun e w' => ∃ v, e = .returned v ∧ K (a.put o.dst v) w') : wpE P ops Q ((i, false) :: rest) a w := by
 refine wpE_do ho hw fun K hK => ?_
 unfold Oper.wp
 rw [exec_fnV hop hc hx he, hargs]
 simp only [Oper.upon]
 refine (h K hK).mono ?_
 rintro e w' ⟨v, rfl, hk⟩
 exact ⟨fun hf => Bool.noConfusion (hst.symm.trans hf), hk⟩
end Stij
def Off2 (a b : Value) : Prop := ∀ k, a.ownBlock = some k → b.ownBlock ≠ some k
theorem Off2.symm {a b : Value} (h : Off2 a b) : Off2 b a := fun k hk e => h k e hk
def ApartL (v : Value) (L : List RowU) : Prop := (∀ y ∈ L, Off2 v (rowV y)) ∧ (L.map rowV).Pairwise Off2
structure PlcOwn (w : World) (base : Nat) (v : Value) (L : List RowU) : Prop where
 rows : OwnR w base v L
 uns : ∀ y ∈ L, OwnU w base (rowV y) y.us
 ap : ApartL v L
theorem PlcOwn.grow {w w' : World} {base : Nat} {v : Value} {L : List RowU} (h : PlcOwn w base v L) (g : Gr w w') : PlcOwn w' base v L := ⟨h.rows.grow g, fun y hy => (h.uns y hy).grow g, h.ap⟩
theorem OwnL.kept {α : Type} {enc : α → List Value} {sz : Nat} {e : TypeId} {w w' : World} {base : Nat} {v : Value} {l : List α} {row : Option Nat} (h : OwnL w base e sz enc v l) (hg : w.grownBy w' row) (hne : v.ownBlock = none ∨ v.ownBlock ≠ row) : OwnL w' base e sz enc v l := World.ownsRow.kept h hg hne
theorem OwnL.mono {α : Type} {enc : α → List Value} {sz : Nat} {e : TypeId} {w : World} {base base' : Nat} {v : Value} {l : List α} (h : OwnL w base e sz enc v l) (hb : base' ≤ base) : OwnL w base' e sz enc v l := by
 obtain ⟨h1, h2⟩ := h
 refine ⟨h1, ?_⟩
 rcases h2 with h2 | ⟨g, cap, cur, hv, hbg, r⟩
 ·exact .inl h2
 ·exact .inr ⟨g, cap, cur, hv, Nat.le_trans hb hbg, r⟩
theorem OwnL.beside {α : Type} {enc : α → List Value} {sz : Nat} {e : TypeId} {w w' : World} {base : Nat} {v u : Value} {l : List α} (h : OwnL w base e sz enc v l) (hg : w.grownBy w' u.ownBlock) (ho : Off2 v u) : OwnL w' base e sz enc v l := by
 refine h.kept hg ?_
 cases hv : v.ownBlock with
 | none => exact .inl rfl
 | some k => exact .inr fun e => ho k hv e.symm
theorem PlcOwn.push {w w1 w' : World} {base : Nat} {v v' : Value} {L : List RowU} {y : RowU} (h : PlcOwn w1 base v L) (hy : OwnU w1 base (rowV y) y.us) (hoff : ∀ z ∈ L, Off2 (rowV z) (rowV y)) (hvy : Off2 v (rowV y))
  (ho : OwnR w' base v' (L ++ [y])) (hg : w1.grownBy w' v.ownBlock) (hb : v'.ownBlock = v.ownBlock ∨ v'.ownBlock = some w1.heap.size) : PlcOwn w' base v' (L ++ [y]) := by
 refine ⟨ho, fun z hz => ?_, fun z hz => ?_, ?_⟩
 ·rcases List.mem_append.1 hz with hz | hz
  ·exact (h.uns z hz).beside hg (h.ap.1 z hz).symm
  ·obtain rfl := List.mem_singleton.1 hz
   exact hy.beside hg hvy.symm
 ·have hz1 : Off2 v (rowV z) ∧ (∀ k, (rowV z).ownBlock = some k → k < w1.heap.size) := by
   rcases List.mem_append.1 hz with hz | hz
   ·exact ⟨h.ap.1 z hz, fun k hk => ((h.uns z hz).lt k hk).2⟩
   ·obtain rfl := List.mem_singleton.1 hz
    exact ⟨hvy, fun k hk => (hy.lt k hk).2⟩
  intro k hk e
  rcases hb with hb | hb
  ·rw [hb] at hk; exact hz1.1 k hk e
  ·rw [hb] at hk
   injection hk with hk
   have := hz1.2 k e
   omega
 ·rw [List.map_append, List.pairwise_append]
  refine ⟨h.ap.2, by simp, fun a ha b hb => ?_⟩
  obtain ⟨z, hz, rfl⟩ := List.mem_map.1 ha
  simp at hb
  subst hb
  exact hoff z hz
theorem PlcOwn.at {w : World} {base : Nat} {v : Value} {L : List RowU} (h : PlcOwn w base v L) : ∃ p c, v = .slice p L.length c := by
 obtain ⟨p, c, hv, _, _⟩ := h.rows.read.parts
 exact ⟨p, c, hv⟩
theorem PlcOwn.plc {w : World} {base : Nat} {p : Option Addr} {c : Nat} {L : List RowU} (h : PlcOwn w base (.slice p L.length c) L) (hL : L.length ≤ 17592186044416) (hu : ∀ x ∈ L, x.us.length ≤ 17592186044416) : PlcAt w p c L :=
 ⟨h.rows.read, fun x hx => (h.uns x hx).read, hL, hu⟩
theorem nil_row {w : World} {x : RowU} (h : RowOn w x) (hp : x.p = none) : x = nilRow := by
 obtain ⟨p, c, l⟩ := x
 dsimp only at hp
 subst hp
 change UnL w (.slice none l.length c) l at h
 obtain ⟨h0, p', c', hv, h1, h2, h3⟩ := h
 injection hv with e1 e2 e3
 have hc : c = 0 := by
  rcases h3 with h3 | ⟨b, o, h, _⟩
  ·omega
  ·rw [← e1] at h; cases h
 subst hc
 have hl : l = [] := List.eq_nil_of_length_eq_zero (by omega)
 subst hl
 rfl
set_option maxRecDepth 100000 in
set_option maxHeartbeats 800000 in
theorem clone_units (w : World) (x : RowU) (hx : RowOn w x) (hb : x.us.length ≤ 1000000) :
  Calls Tryz.prog 87 #[rowV x] w (Ret w fun r w' => ∃ y : RowU, r = rowV y ∧ y.us = x.us ∧ OwnU w' w.heap.size (rowV y) y.us) := by
 have hE := fun (w : World) (a : Option Addr) (n c : Nat) => Lib.run_eql_slice_nil (P := Tryz.prog) w 64 69 a n c 0 0 Tryz.underlying64
 have HX := Lib.hid hx
 cases hp : x.p with
 | none =>
  obtain rfl := nil_row hx hp
  clear hx hp
  show Calls _ _ #[.slice none 0 0] _ _
  go_enter Tryz.func87, Tryz.ntmps87
  go_wp2_with fail
  try rw [Exit.noGoto_ret]
  go_ret
  exact ⟨_, rfl, Gr.refl _, nilRow, rfl, rfl, OwnL.nil _ _ _⟩
 | some ad =>
  obtain ⟨p, c, l⟩ := x
  dsimp only at hp hb
  subst hp
  clear hx
  show Calls _ _ #[.slice (some ad) l.length c] _ _
  go_enter Tryz.func87, Tryz.ntmps87
  have o8 := OwnL.made0 (sz := 2) (enc := encU) w w.heap.size 69 (Nat.le_refl _)
  have g8 : Gr w (w.alloc (.cells #[] 69)) := (Gr.refl _).alloc _
  have HO := Lib.hid o8
  have HG := Lib.hid g8
  clear o8 g8
  go_wp2_with (at_builtin; refine Hold.hold ?_)
  generalize hb8 : w.heap.size = b8 at HO ⊢
  generalize w.alloc _ = W at HO HG ⊢
  refine Hold.go ?_
  refine wpList_plain rfl (fun K hK => ?_)
  refine wp_appendF _ _ 64 69 _ 16 rfl Tryz.underlying64 unit_info rfl (by decide) encU_len encU_one b8 (some ⟨b8, 0, none⟩) (.slice (some ad) l.length c) [] l rfl HO.out rfl (SlL.grow (show UnL w (.slice (some ad) l.length c) l from HX.out) HG.out) (by simp; omega) (by simp; omega) (by rw [← hb8]; exact HG.out.size) ?_
  intro v' w' ho g
  have HO2 := Lib.hid (show OwnU w' b8 v' l from ho)
  have HG2 := Lib.hid (HG.out.trans g)
  obtain ⟨p', c', rfl, _, _⟩ := ho.read.parts
  clear ho g
  refine hK _ _ ?_
  clear hK K
  go_wp2_with fail
  go_ret
  exact ⟨_, rfl, HG2.out, ⟨p', c', l⟩, rfl, rfl, by rw [hb8]; exact HO2.out⟩
theorem with_clo (w : World) (x : RowU) (hx : RowOn w x) (hb : x.us.length ≤ 1000000) :
  Calls Tryz.prog 86 #[rowV x] w (Ret w fun r w' => ∃ y : RowU, r = rowV y ∧ y.us = x.us ∧ OwnU w' w.heap.size (rowV y) y.us) := by
 have HX := Lib.hid hx
 clear hx
 unfold rowV
 go_enter Tryz.func86, Tryz.ntmps86
 go_wp2_with fail
 refine (clone_units w x HX.out hb).mono ?_
 rintro _ w1 ⟨_, rfl, g1, y, rfl, hy, ho⟩
 have HY := Lib.hid hy
 have HO := Lib.hid ho
 clear hy ho
 unfold rowV
 go_wp2_with fail
 go_ret
 exact ⟨_, rfl, g1, y, rfl, HY.out, HO.out⟩
set_option maxRecDepth 100000 in
set_option maxHeartbeats 1600000 in
theorem mapped_rows (w : World) (p : Option Addr) (c : Nat) (L : List RowU) (hp : PlcAt w p c L) (hf : FewK (usOf L)) :
  Calls Tryz.prog 85 #[.slice p L.length c, .func (.func 86) #[] #[]] w (Ret w fun r w' => ∃ L' : List RowU, usOf L' = usOf L ∧ PlcOwn w' w.heap.size r L') := by
 have HP := Lib.hid hp
 have HF := Lib.hid hf
 have hL24 : L.length ≤ 1000 := by rw [← usOf_len]; exact hf.1
 clear hp hf
 go_enter Tryz.func85, Tryz.ntmps85
 go_wp2_with fail
 go_loopw [5, 10] (fun v i w9 => ∃ (k : Nat) (L' : List RowU), i = .int .i64 (k : Int) ∧ k ≤ L.length ∧ usOf L' = (usOf L).take k ∧ PlcOwn w9 w.heap.size v L' ∧ Gr w w9) (fun _ i _ => L.length - (RowKit.intOf i).toNat)
 case atStart => exact ⟨0, [], rfl, Nat.zero_le _, by simp [usOf], ⟨OwnL.nil _ _ _, by simp, by simp [ApartL]⟩, Gr.refl _⟩
 case round =>
  obtain ⟨k, L', rfl, hk, hus, ho, hg⟩ := hrel
  have HU := Lib.hid hus
  have HO := Lib.hid ho
  have GL := Lib.hid hg
  clear hus ho hg
  by_cases hlt : k < L.length
  ·have hlt' : (k : Int) < (L.length : Int) := by omega
   obtain ⟨b, o, x, rfl, hx, hc⟩ := row_at (HP.out.rows.grow GL.out) rfl hlt
   have HX := Lib.hid hx
   have c0 := hc _ (Gr.refl _)
   have hxl : x.us.length ≤ 1000 := HF.out.2 x.us (List.mem_of_getElem? (usOf_at hx))
   clear hx hc
   obtain ⟨pv, cv, hv⟩ := HO.out.at
   subst hv
   go_wp2_with fail
   refine (with_clo _ x ((HP.out.uns x (List.mem_of_getElem? HX.out)).grow GL.out) (by omega)).mono ?_
   rintro _ w2 ⟨_, rfl, g2, y, rfl, hy, hoy⟩
   have hoff : ∀ z ∈ L', Off2 (rowV z) (rowV y) := fun z hz k hk e => by
    have h1 := ((HO.out.uns z hz).lt k hk).2
    have h2 := (hoy.lt k e).1
    omega
   have hvy : Off2 (.slice pv L'.length cv) (rowV y) := fun k hk e => by
    have h1 := (HO.out.rows.lt k hk).2
    have h2 := (hoy.lt k e).1
    omega
   have HO := Lib.hid (HO.out.grow g2)
   have hoy := hoy.mono (base' := w.heap.size) GL.out.size
   have GL := Lib.hid (GL.out.trans g2)
   have HLL := Lib.hid (show L'.length = k by rw [← usOf_len, HU.out, List.length_take, usOf_len]; omega)
   have HY := Lib.hid hoy
   have HYU := Lib.hid hy
   have HOF := Lib.hid (And.intro hoff hvy)
   clear hoy hy hoff hvy g2 c0
   unfold rowV
   go_wp2_with (at_builtin; refine Hold.hold ?_)
   have B8 := SlL.new w2 64 encRU_len [y] #[.slice y.p y.us.length y.c] 1 rfl rfl (by decide)
   have hz : (w2.alloc (.cells #[.slice y.p y.us.length y.c] 64)).heap.size = w2.heap.size + 1 := World.size_alloc _ _
   generalize hb8 : w2.heap.size = b8 at B8 hz ⊢
   generalize w2.alloc _ = w8 at B8 hz ⊢
   obtain ⟨g8, t8⟩ := B8
   refine Hold.go ?_
   have HO := Lib.hid (HO.out.grow g8)
   refine wpList_appendB rfl _ _ 30 64 _ 24 rfl Tryz.underlying30 urow_info rfl (by decide) encRU_len encRU_one w.heap.size (.slice pv L'.length cv) _ L' [y] rfl HO.out.rows rfl t8 (by have := HLL.out; simp; omega) (by have := HLL.out; simp; omega) ((GL.out.trans g8).size) (by simp) ?_
   intro v' w9 ho9 k9 hblk
   have hown := PlcOwn.push (w := w) HO.out (HY.out.grow g8) HOF.out.1 HOF.out.2 ho9 k9 hblk
   have G9 := Lib.hid (HO.out.rows.gr (GL.out.trans g8) k9)
   have H9 := Lib.hid hown
   clear ho9 k9 g8 t8 hblk hown hz hb8
   go_wp2_with fail
   refine ⟨⟨k + 1, L' ++ [y], by go_num, by omega, ?_, H9.out, G9.out⟩, by simp [RowKit.intOf]; omega⟩
   rw [List.take_add_one, usOf_at HX.out, ← HU.out]
   unfold usOf
   simp [HYU.out]
  ·obtain rfl : k = L.length := by omega
   obtain ⟨pv, cv, hv⟩ := HO.out.at
   subst hv
   go_wp2_with fail
   go_ret
   exact ⟨_, rfl, GL.out, L', by rw [HU.out, ← usOf_len L, List.take_length], HO.out⟩
end Go.Proofs.YtnlocdijdfclcaaGreatDoor
namespace Go.Proofs.YtnlocdijdfclcaaGreatDoor
open Go.RowKit Go.Lib Lex
set_option linter.unusedVariables false
set_option linter.unusedSimpArgs false

def ChangeFn (w : World) (v : Value) (l g : List UnitM) : Prop := ∃ (f : Nat) (caps : Array Value), v = .func (.func f) #[] caps ∧ (∀ args w, (callFunc f args).run Tryz.prog w = .ok (.enter f args) w) ∧
 ∀ (w1 : World) (x : RowU), Gr w w1 → x.us = l → OwnU w1 w.heap.size (rowV x) x.us → Calls Tryz.prog f (#[rowV x] ++ caps) w1 fun e w2 => ∃ y : RowU, e = .returned (rowV y) ∧ y.us = g ∧ RowOn w2 y ∧ w1.grownBy w2 (rowV x).ownBlock ∧ (∀ a, y.p = some a → some a.block = (rowV x).ownBlock ∨ w1.heap.size ≤ a.block)
theorem grown_trans {w w' w'' : World} {row : Option Nat} (h : w.grownBy w' row) (k : w'.grownBy w'' row) : w.grownBy w'' row :=
 ⟨k.os.trans h.os, k.tape.trans h.tape, k.output.trans h.output, Nat.le_trans h.size k.size, fun b hb hn => by rw [k.block b (Nat.lt_of_lt_of_le hb h.size) hn, h.block b hb hn]⟩
theorem grown_set {w : World} {b i : Nat} {u : Value} : w.grownBy (w.setCell ⟨b, i, none⟩ u) (some b) := by
 refine ⟨rfl, rfl, rfl, ?_, fun k hk hn => Below.heap_setCell _ _ _ _ (fun e => hn (congrArg some e))⟩
 simp [World.setCell]
def OffA (p : Option Addr) (r : Nat) : Prop := ∀ a, p = some a → a.block ≠ r
theorem SlL.updA {α : Type} {enc : α → List Value} {sz : Nat} {w w' : World} {p : Option Addr} {n c r : Nat} {l : List α} (h : SlL w sz enc (.slice p n c) l) (hu : Upd r w w') (ho : OffA p r) : SlL w' sz enc (.slice p n c) l := by
 obtain ⟨h0, p', c', hv, h1, h2, h3⟩ := h
 cases hv
 refine ⟨h0, p, c, rfl, h1, h2, ?_⟩
 rcases h3 with h3 | ⟨b, o, hp, hc⟩
 ·exact .inl h3
 ·refine .inr ⟨b, o, hp, fun j u hj => ?_⟩
  have := hc j u hj
  unfold World.cell? at this ⊢
  rw [show (⟨b, o + j, none⟩ : Addr).block = b from rfl] at this ⊢
  rw [hu b (ho _ hp)]
  exact this
theorem RowOn.off {w w' : World} {x : RowU} (h : RowOn w x) {r : Nat} (hu : Upd r w w') (ho : x.us = [] ∨ OffA x.p r) : RowOn w' x := by
 rcases ho with ho | ho
 ·unfold RowOn at *
  obtain ⟨h0, p', c', hv, h1, h2, h3⟩ := h
  injection hv with e1 e2 e3
  subst e1 e3
  rw [ho] at *
  refine ⟨h0, _, _, rfl, h1, h2, ?_⟩
  rcases h3 with h3 | ⟨b, o, hp, hc⟩
  ·exact .inl h3
  ·exact .inr ⟨b, o, hp, fun j u hj => by simp at hj⟩
 ·exact SlL.updA h hu ho
theorem PlcOwn.other {w : World} {base : Nat} {v u : Value} {L : List RowU} {b i : Nat} (h : PlcOwn w base v L) (hb : b < base) : PlcOwn (w.setCell ⟨b, i, none⟩ u) base v L :=
 ⟨OwnL.other h.rows (fun e => by have := (h.rows.lt b e).1; omega), fun y hy => OwnL.other (h.uns y hy) (fun e => by have := ((h.uns y hy).lt b e).1; omega), h.ap⟩
theorem pair_at {α : Type} {R : α → α → Prop} {l : List α} (h : l.Pairwise R) (hs : ∀ a b, R a b → R b a) {i j : Nat} {x y : α} (hx : l[i]? = some x) (hy : l[j]? = some y) (hij : i ≠ j) : R x y := by
 obtain ⟨h1, rfl⟩ := List.getElem?_eq_some_iff.1 hx
 obtain ⟨h2, rfl⟩ := List.getElem?_eq_some_iff.1 hy
 rw [List.pairwise_iff_getElem] at h
 rcases Nat.lt_or_ge i j with h' | h'
 ·exact h i j h1 h2 h'
 ·exact hs _ _ (h j i h2 h1 (by omega))
theorem usOf_set (L : List RowU) (k : Nat) (y : RowU) : usOf (L.set k y) = (usOf L).set k y.us := by
 unfold usOf
 rw [List.map_set]
theorem own_ptr {w : World} {base : Nat} {x : RowU} (h : OwnU w base (rowV x) x.us) : ∀ a, x.p = some a → base ≤ a.block ∧ (rowV x).ownBlock = some a.block := fun a ha => by
 rcases h.2 with ⟨hv, _⟩ | ⟨g, cap, cur, hv, hg, _⟩
 ·unfold rowV at hv; injection hv with e _ _; rw [e] at ha; cases ha
 ·unfold rowV at hv ⊢
  injection hv with e _ _
  rw [e] at ha ⊢
  injection ha with ha
  subst ha
  exact ⟨hg, rfl⟩
theorem with_rows {w w2 : World} {base g : Nat} {n cap : Nat} {L : List RowU} {k : Nat} {x y : RowU} (h : PlcOwn w base (.slice (some ⟨g, 0, none⟩) n cap) L) (hn : n = L.length) (hx : L[k]? = some x) (hon : RowOn w2 y)
  (hg : w.grownBy w2 (rowV x).ownBlock) (hoff : ∀ a, y.p = some a → some a.block = (rowV x).ownBlock ∨ w.heap.size ≤ a.block) :
  w2.cell? ⟨g, k, none⟩ = some (rowV x) ∧ w2.frozen? ⟨g, k, none⟩ = false ∧ base ≤ g ∧ g < w2.heap.size ∧
  RowL (w2.setCell ⟨g, k, none⟩ (rowV y)) (.slice (some ⟨g, 0, none⟩) n cap) (L.set k y) ∧ (∀ z ∈ L.set k y, RowOn (w2.setCell ⟨g, k, none⟩ (rowV y)) z ∧ ∀ a, z.p = some a → base ≤ a.block) := by
 have hmem := List.mem_of_getElem? hx
 have hr2 : OwnR w2 base (.slice (some ⟨g, 0, none⟩) n cap) L := h.rows.beside hg (h.ap.1 x hmem)
 obtain ⟨q1, q2, q3, q4, q5⟩ := OwnL.putS encRU_len hr2 (k := k) y 0 (rowV y) hx (by decide) rfl
 rw [Nat.mul_one, Nat.add_zero] at q3 q4 q5
 refine ⟨q3, q4, q1, q2, q5.read, fun z hz => ?_⟩
 have hgx : (rowV x).ownBlock ≠ some g := h.ap.1 x hmem g rfl
 obtain ⟨j, hj⟩ := List.getElem?_of_mem hz
 rw [List.getElem?_set] at hj
 split at hj
 ·split at hj
  ·injection hj with hj
   subst hj
   refine ⟨RowOn.off hon (upd_set w2 g k (rowV y)) (.inr fun a ha e => ?_), fun a ha => ?_⟩
   rotate_left
   ·rcases hoff a ha with h1 | h1
    ·exact ((h.uns x hmem).lt a.block h1.symm).1
    ·have := (h.rows.lt g rfl)
     omega
   rcases hoff a ha with h1 | h1
   ·rw [e] at h1
    exact hgx h1.symm
   ·have := (h.rows.lt g rfl).2
    omega
  ·cases hj
 ·next hne =>
  have hzm := List.mem_of_getElem? hj
  have h2 : OwnU w2 base (rowV z) z.us := (h.uns z hzm).beside hg (by
   refine pair_at h.ap.2 (fun a b h => h.symm) (i := j) (j := k) ?_ ?_ (fun e => hne e.symm)
   ·rw [List.getElem?_map, hj]; rfl
   ·rw [List.getElem?_map, hx]; rfl)
  exact ⟨(OwnL.other h2 ((h.ap.1 z hzm) g rfl)).read, fun a ha => (own_ptr (h.uns z hzm) a ha).1⟩
theorem withP_in {X : Plc} {k : Nat} {g : List UnitM} (h : k < X.length) : withP X ((k : Int) + 1) g = X.set k g := by
 unfold withP
 rw [if_pos ⟨by omega, by omega⟩, show ((k : Int) + 1 - 1).toNat = k by omega]
theorem withP_out {X : Plc} {item : Int} {g : List UnitM} (h : ¬ (1 ≤ item ∧ item ≤ (X.length : Int))) : withP X item g = X := by
 unfold withP
 rw [if_neg h]
structure PlcNew (w : World) (n : Nat) (p : Option Addr) (c : Nat) (L : List RowU) : Prop where
 at' : PlcAt w p c L
 new : ∀ a, p = some a → n ≤ a.block
 news : ∀ x ∈ L, ∀ a, x.p = some a → n ≤ a.block
theorem PlcNew.grow {w w' : World} {n : Nat} {p : Option Addr} {c : Nat} {L : List RowU} (h : PlcNew w n p c L) (g : Gr w w') : PlcNew w' n p c L := ⟨h.at'.grow g, h.new, h.news⟩
theorem PlcNew.mono {w : World} {n m : Nat} {p : Option Addr} {c : Nat} {L : List RowU} (h : PlcNew w n p c L) (hm : m ≤ n) : PlcNew w m p c L := ⟨h.at', fun a ha => Nat.le_trans hm (h.new a ha), fun x hx a ha => Nat.le_trans hm (h.news x hx a ha)⟩
theorem PlcNew.other {w : World} {n b i : Nat} {u : Value} {p : Option Addr} {c : Nat} {L : List RowU} (h : PlcNew w n p c L) (hb : b < n) : PlcNew (w.setCell ⟨b, i, none⟩ u) n p c L :=
 ⟨⟨SlL.updA h.at'.rows (upd_set w b i u) (fun a ha e => by have := h.new a ha; omega), fun x hx => RowOn.off (h.at'.uns x hx) (upd_set w b i u) (.inr fun a ha e => by have := h.news x hx a ha; omega), h.at'.big, h.at'.ubig⟩, h.new, h.news⟩
theorem PlcOwn.new {w : World} {base : Nat} {p : Option Addr} {c : Nat} {L : List RowU} (h : PlcOwn w base (.slice p L.length c) L) (hL : L.length ≤ 17592186044416) (hu : ∀ x ∈ L, x.us.length ≤ 17592186044416) : PlcNew w base p c L :=
 ⟨h.plc hL hu, fun a ha => by
  rcases h.rows.2 with ⟨hv, _⟩ | ⟨g, cap, cur, hv, hg, _⟩
  ·injection hv with e _ _; rw [e] at ha; cases ha
  ·injection hv with e _ _
   rw [e] at ha
   injection ha with ha
   subst ha
   exact hg, fun x hx a ha => (own_ptr (h.uns x hx) a ha).1⟩
set_option maxRecDepth 100000 in
set_option maxHeartbeats 1600000 in
theorem plc_with (w : World) (p : Option Addr) (c : Nat) (L : List RowU) (item : Int) (v : Value) (g : List UnitM) (hp : PlcAt w p c L) (hf : FewK (usOf L)) (hv : ChangeFn w v (unitsP (usOf L) item) g) (hgb : g.length ≤ 1000) :
  Calls Tryz.prog 52 #[plcV p c L, .int .i64 item, v] w (Ret w fun r w' => ∃ p' c' L', r = plcV p' c' L' ∧ PlcNew w' w.heap.size p' c' L' ∧ usOf L' = withP (usOf L) item g) := by
 have HF := Lib.hid hf
 have hL24 : L.length ≤ 1000 := by rw [← usOf_len]; exact hf.1
 obtain ⟨f, caps, rfl, he, h5⟩ := hv
 have H5 := Lib.hid h5
 have B0 := Cells.new w #[.slice p L.length c] 32
 have B1 := Cells.new (w.alloc (.cells #[.slice p L.length c] 32)) #[.slice none 0 0] 32
 simp only [World.size_alloc] at B1
 have p0 := (B0.2.grow B1.1).at 0 rfl
 have H := Lib.hid (show _ ∧ _ ∧ _ from ⟨B0.1.trans B1.1, B0.2.grow B1.1, B1.2⟩)
 have HP := Lib.hid (hp.grow (B0.1.trans B1.1))
 clear B0 B1 hp hf h5
 unfold plcV
 go_enter Tryz.func52, Tryz.ntmps52
 go_wp2_with fail
 clear p0
 generalize hb6 : w.heap.size + 1 = b6 at H ⊢
 generalize hbp : w.heap.size = bp at H ⊢
 generalize (w.alloc _).alloc _ = W at H HP ⊢
 have G := Lib.hid H.out.1
 have TP := Lib.hid H.out.2.1
 have T6 := Lib.hid H.out.2.2
 have HBP := Lib.hid (show ¬ bp < w.heap.size by omega)
 have HSW := Lib.hid G.out.size
 have HB6 := Lib.hid (show ¬ b6 < w.heap.size by omega)
 have HNE := Lib.hid (show b6 ≠ bp by omega)
 have HW6 := Lib.hid H.out.2.2.lt
 have HWP := Lib.hid H.out.2.1.lt
 clear hb6 hbp H
 refine (mapped_rows W p c L HP.out HF.out).mono ?_
 rintro _ w1 ⟨r1, rfl, g1, L', hus, ho⟩
 have HU := Lib.hid hus
 have HS1 := Lib.hid g1.size
 have G := Lib.hid (G.out.trans g1)
 have TP := Lib.hid (TP.out.grow g1)
 have T6 := Lib.hid (T6.out.grow g1)
 have HP := Lib.hid (HP.out.grow g1)
 clear g1
 obtain ⟨pv, cv, rfl⟩ := ho.at
 have hL' : L'.length = L.length := by rw [← usOf_len, hus, usOf_len]
 have hu24 : ∀ y ∈ L', y.us.length ≤ 1000 := fun y hy => HF.out.2 y.us (by rw [← hus]; exact List.mem_map_of_mem hy)
 have HU24 := Lib.hid hu24
 have T := TP.out.set 0 (.slice pv L'.length cv)
 have T6' := T6.out.upd (upd_set w1 bp 0 (.slice pv L'.length cv)) HNE.out
 have G' := G.out.set HBP.out (i := 0) (.slice pv L'.length cv)
 have HO := Lib.hid (ho.other (b := bp) (i := 0) (u := .slice pv L'.length cv) HWP.out)
 have d0 := TP.out.at 0 rfl
 have f0 := Cells.f TP.out 0
 obtain ⟨W2, hW2⟩ : ∃ W2, w1.setCell ⟨bp, 0, none⟩ (.slice pv L'.length cv) = W2 := ⟨_, rfl⟩
 rw [hW2] at T T6' G' HO
 have TP := Lib.hid (show Cells W2 bp #[.slice pv L'.length cv] from by simpa using T)
 have T6 := Lib.hid T6'
 have G := Lib.hid G'
 have HLL := Lib.hid hL'
 have p0 := TP.out.at 0 rfl
 have q0 := T6.out.at 0 rfl
 have q1 := Cells.f T6.out 0
 have hsz : W.heap.size ≤ W2.heap.size := by rw [← hW2]; simpa [World.setCell] using HS1.out
 have HSZ := Lib.hid hsz
 clear T T6' G' hL' ho hus hu24 hsz
 by_cases hin : 1 ≤ item ∧ item ≤ (L.length : Int)
 ·obtain ⟨k, rfl⟩ : ∃ k : Nat, item = (k : Int) + 1 := ⟨(item - 1).toNat, by omega⟩
  have h1 : (1 : Int) ≤ (k : Int) + 1 := hin.1
  have h2 : (k : Int) + 1 ≤ (L'.length : Int) := by rw [HLL.out]; exact hin.2
  have hkl : k < L'.length := by omega
  clear hin
  go_wp2_with fail
  clear d0 f0 p0 q0 q1 hW2
  obtain ⟨x, hx⟩ : ∃ x, L'[k]? = some x := ⟨_, List.getElem?_eq_getElem hkl⟩
  obtain ⟨gv, cv', hpv, hg1, hg2, hg3, hg4⟩ := OwnL.made HO.out.rows (by omega)
  injection hpv with hpv _ hcv
  subst hpv hcv
  have HX := Lib.hid hx
  have hxus : x.us = unitsP (usOf L) ((k : Int) + 1) := by
   have e1 := usOf_at hx
   rw [HU.out] at e1
   unfold unitsP
   rw [if_pos ⟨by omega, by rw [usOf_len, ← HLL.out]; omega⟩, show ((k : Int) + 1 - 1).toNat = k by omega, List.getD_eq_getElem?_getD, e1]; rfl
  have HXUS := Lib.hid hxus
  clear hxus
  have g0 : Gr W2 W2.drew := (Gr.refl _).drew
  have p0 := TP.out.c 0 rfl
  have r0 := row_cell HO.out.rows.read hx
  simp only [Nat.zero_add] at r0
  have hw1 : IntKind.i64.wrap ((k : Int) + 1 - 1) = (k : Int) := by rw [IntKind.wrap_i64]; omega
  have hlt' : (k : Int) < (L'.length : Int) := by omega
  have hww : IntKind.i64.wrap (k : Int) = (k : Int) := by rw [IntKind.wrap_i64]; omega
  clear hx
  have HI0 := Lib.hid (show ∀ w', Gr w w' ∧ Cells w' bp #[.slice (some ⟨gv, 0, none⟩) L'.length cv] → w'.cell? ⟨bp, 0, none⟩ = some (.slice (some ⟨gv, 0, none⟩) L'.length cv) from fun w' h => h.2.at 0 rfl)
  clear p0
  have p0 := HI0.out
  have hI0 : Gr w W2.drew ∧ Cells W2.drew bp #[.slice (some ⟨gv, 0, none⟩) L'.length cv] := ⟨G.out.trans g0, TP.out.grow g0⟩
  refine Inv.wp_region_loose (fun w' => Gr w w' ∧ Cells w' bp #[.slice (some ⟨gv, 0, none⟩) L'.length cv]) (.read 0 (.read 1 (.read 2 (.read 3 (.read 4 (.read 5 (.read 6 (.read 7 (.read 8 (.read 9 (.one 10 (.one 11 (.read 12 (.one 13 .stop)))))))))))))) hI0 (by kernel_rfl) (by kernel_rfl) rfl (by kernel_rfl) (fun _ _ d _ _ h => by cases d <;> exact h) ?_
  repeat (refine Inv.wpL_read (v := ?_) rfl rfl (fun w' hg => ?_) (fun K hK => ?_); rotate_left; (go_simp; rfl); go_simp; refine hK _ _ ?_; clear hK K)
  have r1 := r0 _ g0
  refine Inv.wpL_do rfl rfl (fun K hK => ?_)
  go_simp
  first | refine ⟨hI0, hK _ _ ?_⟩ | refine hK _ _ ?_
  clear hK K r1
  refine Inv.wpL_fnV (args := ?_) rfl rfl rfl rfl rfl he ?_ (fun K hK => ?_)
  rotate_left
  ·go_simp; rfl
  have hox := (HO.out.uns x (List.mem_of_getElem? HX.out)).grow g0
  refine (H5.out W2.drew x (G.out.trans g0) HXUS.out (hox.mono HSW.out)).mono ?_
  rintro _ w3 ⟨y, rfl, hy, hon, hgr, hoff⟩
  obtain ⟨py, cy, uy⟩ := y
  dsimp only at hy hoff
  subst hy
  have hox2 := (HO.out.grow g0)
  obtain ⟨q1, q2, q3, q4, q5, q6⟩ := with_rows (x := x) (y := ⟨py, cy, uy⟩) hox2 rfl HX.out hon hgr hoff
  have hobx : ∀ b, b < W.heap.size → (rowV x).ownBlock ≠ some b := fun b hb e => by have := ((HO.out.uns x (List.mem_of_getElem? HX.out)).lt b e).1; omega
  have TP3 := (TP.out.grow g0).grown hgr (fun e => hobx bp HWP.out e.symm)
  have T63 := (T6.out.grow g0).grown hgr (fun e => hobx b6 HW6.out e.symm)
  have hgo : Gr w W2.drew := G.out.trans g0
  have G3 := OwnL.gr (a := w) (hox.mono HSW.out) hgo hgr
  have hcell : w3.cell? ⟨gv, k, none⟩ = some (.slice x.p x.us.length x.c) := q1
  refine ⟨_, rfl, ⟨G3, TP3⟩, ?_⟩
  go_simp
  refine hK _ _ ?_
  clear hK K r0
  repeat (refine Inv.wpL_read (v := ?_) rfl rfl (fun w' hg => ?_) (fun K hK => ?_); rotate_left; (go_simp; rfl); go_simp; refine hK _ _ ?_; clear hK K)
  refine Inv.wpL_do rfl rfl (fun K hK => ?_)
  unfold rowV
  go_simp
  have TP4' := TP3.upd (upd_set w3 gv k (rowV ⟨py, cy, uy⟩)) (show bp ≠ gv from fun e => by have := HWP.out; omega)
  have G4' := G3.set (b := gv) (i := k) (by have := HSW.out; omega) (rowV ⟨py, cy, uy⟩)
  refine ⟨⟨G4', TP4'⟩, hK _ _ ?_⟩
  clear hK K TP4' G4'
  have TP4 := TP3.upd (upd_set w3 gv k (rowV ⟨py, cy, uy⟩)) (show bp ≠ gv from fun e => by have := HWP.out; omega)
  have T64 := T63.upd (upd_set w3 gv k (rowV ⟨py, cy, uy⟩)) (show b6 ≠ gv from fun e => by have := HW6.out; omega)
  have G4 := G3.set (b := gv) (i := k) (by have := HSW.out; omega) (rowV ⟨py, cy, uy⟩)
  have Q5 := Lib.hid q5
  have Q6 := Lib.hid q6
  have HGV := Lib.hid q3
  clear q1 q2 q3 q4 q5 q6 hon hgr hoff hox hox2 hobx TP3 T63 hgo G3 hcell
  generalize hW4 : w3.setCell ⟨gv, k, none⟩ (rowV ⟨py, cy, uy⟩) = W4 at TP4 T64 G4 Q5 Q6
  unfold rowV at hW4
  rw [hW4]
  refine Inv.wpL_stop ?_
  clear p0
  have p0 := TP4.at 0 rfl
  have q0 := T64.at 0 rfl
  have q1 := Cells.f T64 0
  have G := Lib.hid G4
  have T6 := Lib.hid T64
  clear TP4 T64 G4 hW4
  go_wp2_with fail
  have hlen : (L'.set k ⟨py, cy, uy⟩).length = L'.length := List.length_set ..
  have hb6n : b6 ≠ gv := fun e => by have := HW6.out; have := HGV.out; omega
  have HR := SlL.updA Q5.out (upd_set W4 b6 0 (.slice (some ⟨gv, 0, none⟩) L'.length cv)) (fun a ha e => by
   injection ha with ha
   subst ha
   exact hb6n e.symm)
  have HZ := fun z (hz : z ∈ L'.set k ⟨py, cy, uy⟩) => RowOn.off (Q6.out z hz).1 (upd_set W4 b6 0 (.slice (some ⟨gv, 0, none⟩) L'.length cv)) (.inr fun a ha e => by
   have := (Q6.out z hz).2 a ha
   have := HW6.out
   omega)
  have T7 := T6.out.set 0 (.slice (some ⟨gv, 0, none⟩) L'.length cv)
  have G7 := G.out.set HB6.out (i := 0) (.slice (some ⟨gv, 0, none⟩) L'.length cv)
  generalize W4.setCell _ _ = W7 at HR HZ T7 G7 ⊢
  have y0 := T7.at 0 rfl
  refine bodyPost_ret (by simp [results, Tryz.results52, go_sem, y0]; rfl) rfl ?_
  have HQ2 := fun z (hz : z ∈ L'.set k ⟨py, cy, uy⟩) => (Q6.out z hz).2
  refine ⟨_, rfl, G7, some ⟨gv, 0, none⟩, cv, L'.set k ⟨py, cy, uy⟩, by rw [hlen], ⟨⟨by rw [hlen]; exact HR, HZ, by rw [hlen]; have := HLL.out; omega, fun z hz => ?_⟩, fun a ha => ?_, fun z hz a ha => Nat.le_trans HSW.out (HQ2 z hz a ha)⟩, ?_⟩
  rotate_left
  ·injection ha with ha
   subst ha
   exact Nat.le_trans HSW.out HGV.out
  rotate_left
  ·rcases List.mem_or_eq_of_mem_set hz with hz | rfl
   ·have := HU24.out z hz; omega
   ·dsimp only; omega
  ·rw [usOf_set, HU.out, withP_in (by rw [usOf_len, ← HLL.out]; exact hkl)]
 ·have HIN := Lib.hid hin
  have fin : ∀ (Q : Exit → Act → World → Prop), True := fun _ => trivial
  have hcond : item < 1 ∨ (1 ≤ item ∧ (L'.length : Int) < item) := by rw [HLL.out]; omega
  clear fin hin
  rcases hcond with h1 | ⟨h1, h2⟩
  ·have HO := HO
   go_wp2_with fail
   clear d0 f0
   have HZ := HO.out.other (b := b6) (i := 0) (u := .slice pv L'.length cv) HW6.out
   have T7 := T6.out.set 0 (.slice pv L'.length cv)
   have G7 := G.out.set HB6.out (i := 0) (.slice pv L'.length cv)
   clear hW2 p0 q0 q1
   generalize W2.setCell _ _ = W7 at HZ T7 G7 ⊢
   have y0 := T7.at 0 rfl
   refine bodyPost_ret (by simp [results, Tryz.results52, go_sem, y0]; rfl) rfl ?_
   exact ⟨_, rfl, G7, pv, cv, L', rfl, (HZ.new (by rw [HLL.out]; omega) (fun z hz => by have := HU24.out z hz; omega)).mono HSW.out, by rw [HU.out, withP_out (by rw [usOf_len]; exact HIN.out)]⟩
  ·have HO := HO
   go_wp2_with fail
   clear d0 f0
   have HZ := HO.out.other (b := b6) (i := 0) (u := .slice pv L'.length cv) HW6.out
   have T7 := T6.out.set 0 (.slice pv L'.length cv)
   have G7 := G.out.set HB6.out (i := 0) (.slice pv L'.length cv)
   clear hW2 p0 q0 q1
   generalize W2.setCell _ _ = W7 at HZ T7 G7 ⊢
   have y0 := T7.at 0 rfl
   refine bodyPost_ret (by simp [results, Tryz.results52, go_sem, y0]; rfl) rfl ?_
   exact ⟨_, rfl, G7, pv, cv, L', rfl, (HZ.new (by rw [HLL.out]; omega) (fun z hz => by have := HU24.out z hz; omega)).mono HSW.out, by rw [HU.out, withP_out (by rw [usOf_len]; exact HIN.out)]⟩
end Go.Proofs.YtnlocdijdfclcaaGreatDoor

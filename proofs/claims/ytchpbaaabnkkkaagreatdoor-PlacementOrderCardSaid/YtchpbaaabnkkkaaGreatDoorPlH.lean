/-
 placement.Put; exodusref20.with.
-/
import Derived.Test.YtchpbaaabnkkkaaGreatDoorPlF
namespace Go.Proofs.YtchpbaaabnkkkaaGreatDoor
open Go.RowKit Go.Lib Lex
set_option linter.unusedVariables false
set_option linter.unusedSimpArgs false

section append
variable {α : Type} {enc : α → List Value} {sz : Nat} {P : Program} {o : Oper} {a : Act} {K : Act → World → Prop} {Q : Exit → Act → World → Prop} {w : World}
theorem wp_appendB (s x : Operand) (t e : TypeId) (z : Value) (bytes : Nat) (ho : o.op = .call { callee := .builtin .append, args := #[s, x], argTypes := #[t, t] })
  (ht : P.underlying t = some (.slice e)) (hinfo : (P.info? e).map (fun i => (i.zero, i.size, i.bytes)) = some (some z, sz, bytes)) (hzs : z.cells.size = sz) (hsz : 0 < sz) (he : ∀ x, (enc x).length = sz) (h1 : ∀ x, ∀ u ∈ enc x, u.oneCell' = true)
  (base : Nat) (v vx : Value) (l m : List α) (hs : a.eval s = v) (hown : OwnL w base e sz enc v l) (hx : a.eval x = vx) (hm : SlL w sz enc vx m)
  (hlen : (l.length + m.length) * bytes ≤ 140737488355328) (hlen2 : l.length + m.length ≤ 1000000000000) (hbase : base ≤ w.heap.size) (hpos : 0 < m.length)
  (h : ∀ v' w', OwnL w' base e sz enc v' (l ++ m) → w.grownBy w' v.ownBlock → (v'.ownBlock = v.ownBlock ∨ v'.ownBlock = some w.heap.size) → K (a.put o.dst v') w') : Oper.wp P o a w K Q := by
 obtain ⟨v', w', hr, h2, h3, h4⟩ := append_block (ty := o.type) t e z bytes ht hinfo hzs hsz he h1 base v vx l m hown hm hlen hlen2 hbase hpos
 unfold Oper.wp execOp
 simp only [ho, resolve, invoke, builtin, Sem.run_bind, Sem.run_pure, Result.andThen_ok, List.map_toArray, List.map_cons, List.map_nil, hs, hx, hr]
 exact h v' w' h2 h3 h4
end append
set_option maxRecDepth 100000 in
set_option maxHeartbeats 800000 in
theorem plc_Put (w : World) (p : Option Addr) (c : Nat) (L : List RowU) (item m s : Int) (hp : PlcAt w p c L) (hf : FewK (usOf L)) (hf2 : ∀ l ∈ usOf L, l.length ≤ 900) :
  Calls Tryz.prog 28 #[plcV p c L, .int .i64 item, .int .i64 m, .int .i64 s] w (Ret w fun r w' => PlcRes w (putP (usOf L) item m s) r w') := by
 have HF := Lib.hid hf
 have hul : (unitsP (usOf L) item).length ≤ 900 := by
  unfold unitsP
  split
  ·rw [List.getD_eq_getElem?_getD]
   cases hx : (usOf L)[(item - 1).toNat]? with
   | none => simp
   | some l => simpa using hf2 l (List.mem_of_getElem? hx)
  ·simp
 have HUL := Lib.hid hul
 have B0 := Cells.new w #[.slice p L.length c] 34
 have B1 := Cells.new (w.alloc (.cells #[.slice p L.length c] 34)) #[.int .i64 item] 3
 have B2 := Cells.new ((w.alloc (.cells #[.slice p L.length c] 34)).alloc (.cells #[.int .i64 item] 3)) #[.int .i64 m] 3
 have B3 := Cells.new (((w.alloc (.cells #[.slice p L.length c] 34)).alloc (.cells #[.int .i64 item] 3)).alloc (.cells #[.int .i64 m] 3)) #[.slice none 0 0] 34
 have B4 := Cells.new ((((w.alloc (.cells #[.slice p L.length c] 34)).alloc (.cells #[.int .i64 item] 3)).alloc (.cells #[.int .i64 m] 3)).alloc (.cells #[.slice none 0 0] 34)) #[.int .i64 m, .int .i64 s] 74
 simp only [World.size_alloc] at B1 B2 B3 B4
 have m0 := (B2.2.grow B3.1).at 0 rfl
 have p0 := (B0.2.grow (((B1.1.trans B2.1).trans B3.1).trans B4.1)).at 0 rfl
 have i0 := (B1.2.grow ((B2.1.trans B3.1).trans B4.1)).at 0 rfl
 have H := Lib.hid (show _ ∧ _ ∧ _ ∧ _ ∧ _ ∧ _ from ⟨B0.1.trans (((B1.1.trans B2.1).trans B3.1).trans B4.1), B0.2.grow (((B1.1.trans B2.1).trans B3.1).trans B4.1), B1.2.grow ((B2.1.trans B3.1).trans B4.1), B2.2.grow (B3.1.trans B4.1), B3.2.grow B4.1, B4.2⟩)
 have HP := Lib.hid (hp.grow (B0.1.trans (((B1.1.trans B2.1).trans B3.1).trans B4.1)))
 clear B0 B1 B2 B3 B4 hp hf hf2 hul
 unfold plcV
 go_enter Tryz.func28, Tryz.ntmps28
 go_wp2_with fail
 clear p0 i0 m0
 generalize hbu : w.heap.size + 1 + 1 + 1 + 1 = bu at H ⊢
 generalize hb6 : w.heap.size + 1 + 1 + 1 = b6 at H ⊢
 generalize hbm : w.heap.size + 1 + 1 = bm at H ⊢
 generalize hbi : w.heap.size + 1 = bi at H ⊢
 generalize hbp : w.heap.size = bp at H ⊢
 generalize ((((w.alloc _).alloc _).alloc _).alloc _).alloc _ = W at H HP ⊢
 have G := Lib.hid H.out.1
 have HS2 := Lib.hid H.out.1.size
 have T6 := Lib.hid H.out.2.2.2.2.1
 have HB6 := Lib.hid (show ¬ b6 < w.heap.size by omega)
 clear hbu hb6 hbm hbi hbp
 refine (plc_with W p c L item _ (putL (unitsP (usOf L) item) ⟨m, s⟩) HP.out HF.out (put_clo W bp bi bm bu p c L item m s HP.out HF.out H.out.2.1 H.out.2.2.1 H.out.2.2.2.1 H.out.2.2.2.2.2) (by have := putL_len (unitsP (usOf L) item) ⟨m, s⟩; have := HUL.out; omega)).mono ?_
 rintro _ w3 ⟨_, rfl, g3, p', c', L', rfl, hn, hu⟩
 have HN := Lib.hid hn
 have HU := Lib.hid hu
 have HL6 := Lib.hid T6.out.lt
 have T6 := Lib.hid (T6.out.grow g3)
 have G := Lib.hid (G.out.trans g3)
 have q0 := T6.out.at 0 rfl
 have q1 := Cells.f T6.out 0
 clear hn hu g3 H
 unfold plcV
 go_wp2_with fail
 clear q0 q1
 have hn := HN.out.other (b := b6) (i := 0) (u := .slice p' L'.length c') HL6.out
 have hT := T6.out.set 0 (.slice p' L'.length c')
 have hG := G.out.set HB6.out (i := 0) (.slice p' L'.length c')
 generalize w3.setCell _ _ = W4 at hn hT hG ⊢
 have y0 := hT.at 0 rfl
 refine bodyPost_ret (by simp [results, Tryz.results28, go_sem, y0]; rfl) rfl ?_
 exact ⟨_, rfl, hG, p', c', L', rfl, hn.mono HS2.out, HU.out⟩
def RowAp (xp : Option Addr) (base : Nat) (v : Value) (y : RowU) : Prop := y.us = [] ∨ ∀ a, y.p = some a → v.ownBlock ≠ some a.block ∧ (xp = some a ∨ base ≤ a.block)
theorem row_lt {w : World} {y : RowU} (h : RowOn w y) (hne : y.us ≠ []) : ∀ a, y.p = some a → a.block < w.heap.size := fun a ha => by
 obtain ⟨b, o, u, hp, hu, hc⟩ := unit_at (n := y.us.length) (show UnL w (.slice y.p y.us.length y.c) y.us from h) rfl (k := 0) (List.length_pos_iff.2 hne)
 rw [hp] at ha
 injection ha with ha
 subst ha
 exact World.block_lt_of_cell? w _ (hc w (Gr.refl _)).1
theorem RowOn.grown {w w' : World} {y : RowU} {r : Option Nat} (h : RowOn w y) (hg : w.grownBy w' r) (ha : y.us = [] ∨ ∀ a, y.p = some a → r ≠ some a.block) : RowOn w' y := by
 by_cases hne : y.us = []
 ·unfold RowOn at *
  obtain ⟨h0, p', c', hv, h1, h2, h3⟩ := h
  injection hv with e1 e2 e3
  subst e1 e3
  rw [hne] at *
  refine ⟨h0, _, _, rfl, h1, h2, ?_⟩
  rcases h3 with h3 | ⟨b, o, hp, hc⟩
  ·exact .inl h3
  ·exact .inr ⟨b, o, hp, fun j u hj => by simp at hj⟩
 ·have hlt := row_lt h hne
  have hap := ha.resolve_left hne
  unfold RowOn at *
  obtain ⟨h0, p', c', hv, h1, h2, h3⟩ := h
  injection hv with e1 e2 e3
  subst e1 e3
  refine ⟨h0, _, _, rfl, h1, h2, ?_⟩
  rcases h3 with h3 | ⟨b, o, hp, hc⟩
  ·exact .inl h3
  ·refine .inr ⟨b, o, hp, fun j u hj => ?_⟩
   have h5 := hc j u hj
   have h6 := hlt _ hp
   have h7 := hap _ hp
   unfold World.cell? at h5 ⊢
   rw [show (⟨b, o + j, none⟩ : Addr).block = b from rfl] at h5 ⊢
   rw [hg.block b h6 (fun e => h7 e.symm)]
   exact h5
def OutI (w : World) (xp : Option Addr) (base bp b6 bo : Nat) (pv : Value) (X : Plc) (w9 : World) : Prop := ∃ v L', Cells w9 bp #[pv] ∧ Cells w9 b6 #[.slice none 0 0] ∧ Cells w9 bo #[v] ∧ OwnR w9 base v L' ∧ (∀ y ∈ L', RowOn w9 y ∧ RowAp xp base v y) ∧ usOf L' = X ∧ Gr w w9 ∧ base ≤ w9.heap.size
theorem OutI.grow {w w9 w' : World} {xp : Option Addr} {base bp b6 bo : Nat} {pv : Value} {X : Plc} (h : OutI w xp base bp b6 bo pv X w9) (g : Gr w9 w') : OutI w xp base bp b6 bo pv X w' := by
 obtain ⟨v, L', h1, h2, h3, h4, h5, h6, h7, h8⟩ := h
 exact ⟨v, L', h1.grow g, h2.grow g, h3.grow g, h4.grow g, fun y hy => ⟨(h5 y hy).1.grow g, (h5 y hy).2⟩, h6, h7.trans g, Nat.le_trans h8 g.size⟩
theorem OutI.push {w w8 w' : World} {xp : Option Addr} (hxp : ∀ a, xp = some a → a.block < w.heap.size) {base bp b6 bo : Nat} {pv v v' : Value} {L' : List RowU} {y : RowU} (hbp : bp < base) (hb6 : b6 < base) (hbo : bo < base) (hwo : ¬ bo < w.heap.size) (hnp : bp ≠ bo) (hn6 : b6 ≠ bo) (hwb : w.heap.size ≤ base)
  (h1 : Cells w8 bp #[pv]) (h2 : Cells w8 b6 #[.slice none 0 0]) (h3 : Cells w8 bo #[v]) (h4 : OwnR w8 base v L') (h5 : ∀ z ∈ L', RowOn w8 z ∧ RowAp xp base v z) (h7 : Gr w w8) (h8 : base ≤ w8.heap.size)
  (hy : RowOn w8 y) (hya : RowAp xp base v y) (ho : OwnR w' base v' (L' ++ [y])) (hg : w8.grownBy w' v.ownBlock) (hb : v'.ownBlock = v.ownBlock ∨ v'.ownBlock = some w8.heap.size) :
  OutI w xp base bp b6 bo pv (usOf L' ++ [y.us]) (w'.setCell ⟨bo, 0, none⟩ v') := by
 have hne : ∀ b, b < base → some b ≠ v.ownBlock := fun b hb e => by have := (h4.lt b e.symm).1; omega
 have hne' : ∀ b, b < base → v'.ownBlock ≠ some b := fun b hb e => by have := (ho.lt b e).1; omega
 have hu := upd_set w' bo 0 v'
 have ap : ∀ z, RowOn w8 z → RowAp xp base v z → RowAp xp base v' z := fun z hz ha => by
  by_cases hzn : z.us = []
  ·exact .inl hzn
  ·right
   intro a hp
   refine ⟨?_, (ha.resolve_left hzn a hp).2⟩
   rcases hb with hb | hb
   ·rw [hb]; exact (ha.resolve_left hzn a hp).1
   ·rw [hb]
    intro e
    injection e with e
    have := row_lt hz hzn a hp
    omega
 refine ⟨v', L' ++ [y], ((h1.grown hg (hne bp hbp)).upd hu hnp), ((h2.grown hg (hne b6 hb6)).upd hu hn6), ?_, OwnL.other ho (hne' bo hbo), fun z hz => ?_, ?_, ?_, ?_⟩
 ·have := (h3.grown hg (hne bo hbo)).set 0 v'
  simpa using this
 ·have hz2 : RowOn w8 z ∧ RowAp xp base v z := by
   rcases List.mem_append.1 hz with hz | hz
   ·exact h5 z hz
   ·obtain rfl := List.mem_singleton.1 hz
    exact ⟨hy, hya⟩
  refine ⟨?_, ap z hz2.1 hz2.2⟩
  have h9 := hz2.1.grown hg (by
   rcases hz2.2 with h | h
   ·exact .inl h
   ·exact .inr fun a ha => (h a ha).1)
  rcases hz2.2 with hzn | hzn
  ·exact h9.off hu (.inl hzn)
  ·exact h9.off hu (.inr fun a ha e => by
    rcases (hzn a ha).2 with h | h
    ·have := hxp a h; omega
    ·omega)
 ·unfold usOf; simp
 ·exact (OwnL.gr (a := w) (h4.mono hwb) h7 hg).set hwo v'
 ·have := hg.size
  simp [World.setCell]
  omega
theorem withP_at {X : Plc} {item : Int} {g : List UnitM} {k : Nat} {l : List UnitM} (h : X[k]? = some l) : (withP X item g)[k]? = some (if (k : Int) + 1 = item then g else l) := by
 have hk := (List.getElem?_eq_some_iff.1 h).1
 unfold withP
 by_cases hin : 1 ≤ item ∧ item ≤ (X.length : Int)
 ·rw [if_pos hin, List.getElem?_set]
  by_cases e : (k : Int) + 1 = item
  ·rw [if_pos e, if_pos (by omega), if_pos (by omega)]
  ·rw [if_neg e, if_neg (by omega), h]
 ·rw [if_neg hin, if_neg (by omega), h]
theorem withP_len (X : Plc) (item : Int) (g : List UnitM) : (withP X item g).length = X.length := by
 unfold withP
 split <;> simp
set_option maxRecDepth 100000 in
set_option maxHeartbeats 1600000 in
theorem ref_with (w : World) (p : Option Addr) (c : Nat) (L : List RowU) (item : Int) (x : RowU) (hp : PlcAt w p c L) (hf : FewK (usOf L)) (hx : RowOn w x) (hxl : x.us.length ≤ 1000) (hi : -9223372036854775808 ≤ item ∧ item ≤ 9223372036854775807) :
  Calls Tryz.prog 77 #[plcV p c L, .int .i64 item, rowV x] w (Ret w fun r w' => ∃ p' c' L', r = plcV p' c' L' ∧ PlcAt w' p' c' L' ∧ (∀ a, p' = some a → w.heap.size ≤ a.block) ∧ (∀ z ∈ L', z.us = [] ∨ ∀ a, z.p = some a → x.p = some a ∨ w.heap.size ≤ a.block) ∧ usOf L' = withP (usOf L) item x.us) := by
 have HF := Lib.hid hf
 have hL24 : L.length ≤ 1000 := by rw [← usOf_len]; exact hf.1
 have B0 := Cells.new w #[.slice p L.length c] 34
 have B1 := Cells.new (w.alloc (.cells #[.slice p L.length c] 34)) #[.slice none 0 0] 34
 have B2 := Cells.new ((w.alloc (.cells #[.slice p L.length c] 34)).alloc (.cells #[.slice none 0 0] 34)) #[.slice none 0 0] 34
 simp only [World.size_alloc] at B1 B2
 have H := Lib.hid (show _ ∧ _ ∧ _ ∧ _ from ⟨B0.1.trans (B1.1.trans B2.1), B0.2.grow (B1.1.trans B2.1), B1.2.grow B2.1, B2.2⟩)
 have HP0 := Lib.hid hp
 have HX0 := Lib.hid hx
 have HXL := Lib.hid hxl
 have HXP := Lib.hid (show ∀ a, (if x.us = [] then none else x.p) = some a → a.block < w.heap.size from fun a ha => by
  split at ha
  ·cases ha
  ·next h => exact row_lt hx h a ha)
 clear B0 B1 B2 hp hf hx hxl
 unfold plcV rowV
 go_enter Tryz.func77, Tryz.ntmps77
 go_wp2_with fail
 generalize hbo : w.heap.size + 1 + 1 = bo at H ⊢
 generalize hb6 : w.heap.size + 1 = b6 at H ⊢
 generalize hbp : w.heap.size = bp at H ⊢
 generalize ((w.alloc _).alloc _).alloc _ = W at H ⊢
 have HB := Lib.hid (show bp < W.heap.size ∧ b6 < W.heap.size ∧ bo < W.heap.size ∧ ¬ bo < w.heap.size ∧ ¬ b6 < w.heap.size ∧ bp ≠ bo ∧ b6 ≠ bo ∧ w.heap.size ≤ W.heap.size from by
  have := H.out.2.2.2.lt
  have := H.out.2.1.lt
  have := H.out.2.2.1.lt
  have := H.out.1.size
  refine ⟨by omega, by omega, by omega, by omega, by omega, by omega, by omega, by omega⟩)
 have HO := Lib.hid (show OutI w (if x.us = [] then none else x.p) W.heap.size bp b6 bo (.slice p L.length c) [] W from ⟨.slice none 0 0, [], H.out.2.1, H.out.2.2.1, H.out.2.2.2, OwnL.nil _ _ _, by simp, rfl, H.out.1, Nat.le_refl _⟩)
 clear hbo hb6 hbp H
 go_loopw [8] (fun i w9 => ∃ k : Nat, i = .int .i64 (k : Int) ∧ k ≤ L.length ∧ OutI w (if x.us = [] then none else x.p) W.heap.size bp b6 bo (.slice p L.length c) ((withP (usOf L) item x.us).take k) w9) (fun i _ => L.length - (RowKit.intOf i).toNat)
 case atStart => exact ⟨0, rfl, Nat.zero_le _, by simpa using HO.out⟩
 case round =>
  clear HO
  obtain ⟨k, rfl, hk, v, L', h1, h2, h3, h4, h5, h6, h7, h8⟩ := hrel
  have H1 := Lib.hid h1
  have H2 := Lib.hid h2
  have H3 := Lib.hid h3
  have H4 := Lib.hid h4
  have H5 := Lib.hid h5
  have H6 := Lib.hid h6
  have H7 := Lib.hid h7
  have H8 := Lib.hid h8
  have p0 := h1.at 0 rfl
  have HLL := Lib.hid (show L'.length = k by rw [← usOf_len, h6, List.length_take, withP_len, usOf_len]; omega)
  clear h1 h2 h3 h4 h5 h6 h7 h8
  by_cases hlt : k < L.length
  ·have hlt' : (k : Int) < (L.length : Int) := by omega
   have hk1 : IntKind.i64.wrap ((k : Int) + 1) = (k : Int) + 1 := by rw [IntKind.wrap_i64]; omega
   have o0 := H3.out.at 0 rfl
   obtain ⟨y0, hy0⟩ : ∃ y0, L[k]? = some y0 := ⟨_, List.getElem?_eq_getElem hlt⟩
   have HY0 := Lib.hid hy0
   have HNX := Lib.hid (show (withP (usOf L) item x.us).take (k + 1) = (withP (usOf L) item x.us).take k ++ [if (k : Int) + 1 = item then x.us else y0.us] from by
    rw [List.take_add_one, withP_at (usOf_at hy0)]; rfl)
   clear hy0
   by_cases e : (k : Int) + 1 = item
   ·have hwk : IntKind.i64.wrap (item - 1) = (k : Int) := by rw [← e, IntKind.wrap_i64]; omega
    have E := Lib.hid e
    clear e
    go_wp2_with (at_builtin; refine Hold.hold ?_)
    clear p0 o0
    have B8 := SlL.new wr 71 encRU_len [x] #[.slice x.p x.us.length x.c] 1 rfl rfl (by decide)
    have hz : (wr.alloc (.cells #[.slice x.p x.us.length x.c] 71)).heap.size = wr.heap.size + 1 := World.size_alloc _ _
    generalize hb8 : wr.heap.size = b8 at B8 hz ⊢
    generalize wr.alloc _ = w8 at B8 hz ⊢
    obtain ⟨g8, t8⟩ := B8
    refine Hold.go ?_
    refine wpList_appendB rfl _ _ 32 71 _ 24 rfl Tryz.underlying32 urow_info rfl (by decide) encRU_len encRU_one W.heap.size v _ L' [x] rfl (H4.out.grow g8) rfl t8 (by have := HLL.out; simp; omega) (by have := HLL.out; simp; omega) (Nat.le_trans H8.out g8.size) (by simp) ?_
    intro v' w9 ho9 k9 hblk
    obtain ⟨p9, c9, rfl, _, _⟩ := (OwnL.read ho9).parts
    obtain ⟨c1, c2, c3, c4, c5, c6, c7, c8⟩ := HB.out
    have hout := OutI.push HXP.out (y := x) c1 c2 c3 c4 c6 c7 c8 (H1.out.grow g8) (H2.out.grow g8) (H3.out.grow g8) (H4.out.grow g8) (fun z hz => ⟨(H5.out z hz).1.grow g8, (H5.out z hz).2⟩) (H7.out.trans g8) (Nat.le_trans H8.out g8.size) (HX0.out.grow (H7.out.trans g8)) (by
     by_cases hxn : x.us = []
     ·exact .inl hxn
     ·right
      intro a ha
      have h1 := row_lt HX0.out hxn a ha
      exact ⟨fun e => by have := (H4.out.lt _ e).1; omega, .inl (by rw [if_neg hxn]; exact ha)⟩) ho9 k9 hblk
    have hne3 : some bo ≠ v.ownBlock := fun e => by have := (H4.out.lt bo e.symm).1; omega
    have T9 := (H3.out.grow g8).grown k9 hne3
    have d0 := T9.at 0 rfl
    have f0 := Cells.f T9 0
    have HOUT := Lib.hid hout
    clear hout hb8 T9 hblk hne3 k9 ho9 hz g8 t8 c1 c2 c3 c4 c5 c6 c7 c8
    go_wp2_with fail
    refine ⟨⟨k + 1, by go_num, by omega, ?_⟩, by simp [RowKit.intOf]; omega⟩
    rw [HNX.out, if_pos E.out, ← H6.out]
    have hout := HOUT.out
    rw [show (L' ++ [x]).length = L'.length + 1 by simp] at hout
    exact hout
   ·have hwk : ((k : Int) == IntKind.i64.wrap (item - 1)) = false := by
     rw [IntKind.wrap_i64]
     simp only [beq_eq_false_iff_ne, ne_eq]
     omega
    have hwk2 : ((k : Int) == wrap64 (item - 1)) = false := by
     unfold wrap64
     simp only [beq_eq_false_iff_ne, ne_eq]
     omega
    have E := Lib.hid e
    clear e
    go_wp2_with fail
    have hlen0 := HF.out.2 y0.us (List.mem_of_getElem? (usOf_at HY0.out))
    have HP := Lib.hid (HP0.out.grow H7.out)
    obtain ⟨bq, oq, y0', hpq, hy0', hcq⟩ := row_at HP.out.rows rfl hlt
    obtain rfl : y0 = y0' := Option.some.inj (HY0.out.symm.trans hy0')
    subst hpq
    clear hwk hwk2 hy0' p0 o0
    have g0 : Gr wr wr.drew := (Gr.refl _).drew
    have p0 := H1.out.c 0 rfl
    have o0 := H3.out.c 0 rfl
    refine Stij.wp_region_fast [(0, true), (1, true), (3, true), (4, true), (5, true), (6, true), (7, true), (2, false), (8, false), (9, false), (10, false), (11, true), (12, false)] (by kernel_rfl) (by kernel_rfl) rfl (by kernel_rfl) (fun _ _ d _ _ h => by cases d <;> exact h) ?_
    repeat (refine Stij.wpE_readB (v := ?_) g0 rfl rfl (fun w' hg => ?_) (fun K hK => ?_); rotate_left; (go_simp; rfl); go_simp; refine hK _ _ ?_; clear hK K)
    have HP := Lib.hid (HP.out.grow g0)
    have hy1 : RowOn wr.drew y0 := HP.out.uns y0 (List.mem_of_getElem? HY0.out)
    have hs := (show OutI w (if x.us = [] then none else x.p) W.heap.size bp b6 bo (.slice (some ⟨bq, oq, none⟩) L.length c) (usOf L') wr.drew from (show OutI w (if x.us = [] then none else x.p) W.heap.size bp b6 bo (.slice (some ⟨bq, oq, none⟩) L.length c) (usOf L') wr from ⟨v, L', H1.out, H2.out, H3.out, H4.out, H5.out, rfl, H7.out, H8.out⟩).grow g0)
    have H1 := Lib.hid (H1.out.grow g0)
    have H2 := Lib.hid (H2.out.grow g0)
    have H3 := Lib.hid (H3.out.grow g0)
    have H4 := Lib.hid (H4.out.grow g0)
    have H5 := Lib.hid (fun z hz => And.intro ((H5.out z hz).1.grow g0) (H5.out z hz).2)
    have H7 := Lib.hid (H7.out.trans g0)
    have H8 := Lib.hid (Nat.le_trans H8.out g0.size)
    clear hs p0 o0 g0
    generalize wr.drew = w0 at hy1 H1 H2 H3 H4 H5 H7 H8 ⊢
    refine Stij.wpE_do rfl rfl (fun K hK => ?_)
    go_simp
    have o1 := OwnL.made0 (sz := 2) (enc := encU) w0 w0.heap.size 74 (Nat.le_refl _)
    have g1 : Gr w0 (w0.alloc (.cells #[] 74)) := (Gr.refl _).alloc _
    refine ⟨fun _ => g1, hK _ _ ?_⟩
    clear hK K
    generalize hb1 : w0.heap.size = b1 at o1 ⊢
    generalize w0.alloc _ = w1 at o1 g1 ⊢
    refine Stij.wpE_do rfl rfl (fun K hK => ?_)
    refine wp_appendF _ _ 71 74 _ 16 rfl Tryz.underlying71 unit_info rfl (by decide) encU_len encU_one b1 (some ⟨b1, 0, none⟩) (.slice y0.p y0.us.length y0.c) [] y0.us rfl o1 rfl (SlL.grow (show UnL w0 (.slice y0.p y0.us.length y0.c) y0.us from hy1) g1) (by simp; omega) (by simp; omega) (by rw [← hb1]; exact g1.size) ?_
    intro v2 w2 ho2 g2
    refine ⟨fun _ => g2, hK _ _ ?_⟩
    clear hK K
    have ho2 : OwnU w2 b1 v2 y0.us := ho2
    obtain ⟨p2, c2, rfl, _, _⟩ := ho2.read.parts
    have g12 := g1.trans g2
    refine Stij.wpE_do rfl rfl (fun K hK => ?_)
    go_simp
    have B8 := SlL.new w2 71 encRU_len [(⟨p2, c2, y0.us⟩ : RowU)] #[.slice p2 y0.us.length c2] 1 rfl rfl (by decide)
    have hz : (w2.alloc (.cells #[.slice p2 y0.us.length c2] 71)).heap.size = w2.heap.size + 1 := World.size_alloc _ _
    refine ⟨fun _ => B8.1, hK _ _ ?_⟩
    clear hK K
    generalize hb8 : w2.heap.size = b8 at B8 hz ⊢
    generalize w2.alloc _ = w8 at B8 hz ⊢
    obtain ⟨g8, t8⟩ := B8
    have g08 := g12.trans g8
    refine Stij.wpE_do rfl rfl (fun K hK => ?_)
    refine wp_appendB _ _ 32 71 _ 24 rfl Tryz.underlying32 urow_info rfl (by decide) encRU_len encRU_one W.heap.size v _ L' [(⟨p2, c2, y0.us⟩ : RowU)] rfl (H4.out.grow g08) rfl t8 (by have := HLL.out; simp; omega) (by have := HLL.out; simp; omega) (Nat.le_trans H8.out g08.size) (by simp) ?_
    intro v' w9 ho9 k9 hblk
    refine ⟨fun h => Bool.noConfusion h, hK _ _ ?_⟩
    clear hK K
    obtain ⟨p9, c9, hv9, _, _⟩ := (OwnL.read ho9).parts
    obtain ⟨N, hN⟩ : ∃ N, (L' ++ [(⟨p2, c2, y0.us⟩ : RowU)]).length = N := ⟨_, rfl⟩
    rw [hN] at hv9
    subst hv9
    obtain ⟨c1', c2', c3', c4', c5', c6', c7', c8'⟩ := HB.out
    have hy9 : OwnU w8 b1 (rowV ⟨p2, c2, y0.us⟩) y0.us := ho2.grow g8
    have hout := OutI.push HXP.out (y := ⟨p2, c2, y0.us⟩) c1' c2' c3' c4' c6' c7' c8' (H1.out.grow g08) (H2.out.grow g08) (H3.out.grow g08) (H4.out.grow g08) (fun z hz => ⟨(H5.out z hz).1.grow g08, (H5.out z hz).2⟩) (H7.out.trans g08) (Nat.le_trans H8.out g08.size) hy9.read (.inr fun a ha => by
     obtain ⟨h1, h2⟩ := own_ptr (x := ⟨p2, c2, y0.us⟩) hy9 a ha
     refine ⟨fun e => ?_, .inr ?_⟩
     ·have := (H4.out.lt _ e).2; omega
     ·have := H8.out; omega) ho9 k9 hblk
    have hne3 : some bo ≠ v.ownBlock := fun e => by have := (H4.out.lt bo e.symm).1; omega
    have T9 := (H3.out.grow g08).grown k9 hne3
    have d0 := T9.at 0 rfl
    have f0 := Cells.f T9 0
    have HOUT := Lib.hid hout
    have g9 := Gr.refl w9
    clear hout hb8 T9 hblk hne3 k9 ho9 hz g8 t8 c1' c2' c3' c4' c5' c6' c7' c8' hy9 g08 g12 g2 g1 o1 ho2 hb1 hy1
    repeat (refine Stij.wpE_readB (v := ?_) g9 rfl rfl (fun w' hg => ?_) (fun K hK => ?_); rotate_left; (go_simp; rfl); go_simp; refine hK _ _ ?_; clear hK K)
    refine Stij.wpE_do rfl rfl (fun K hK => ?_)
    go_simp
    refine ⟨fun h => Bool.noConfusion h, hK _ _ ?_⟩
    clear hK K
    refine Stij.wpE_nil ?_
    clear d0 f0 g9
    generalize w9.setCell _ _ = W9 at HOUT ⊢
    go_wp2_with fail
    refine ⟨⟨k + 1, by go_num, by omega, ?_⟩, by simp [RowKit.intOf]; omega⟩
    rw [HNX.out, if_neg E.out, ← H6.out]
    exact HOUT.out
  ·obtain rfl : k = L.length := by omega
   have o0 := H3.out.at 0 rfl
   have q0 := H2.out.at 0 rfl
   have q1 := Cells.f H2.out 0
   obtain ⟨pv, cv, rfl, _, _⟩ := H4.out.read.parts
   go_wp2_with fail
   obtain ⟨c1', c2', c3', c4', c5', c6', c7', c8'⟩ := HB.out
   have hR : RowL (wr.setCell ⟨b6, 0, none⟩ (.slice pv L'.length cv)) (.slice pv L'.length cv) L' := (OwnL.other (i := 0) (u := .slice pv L'.length cv) H4.out (fun e => by have := (H4.out.lt b6 e).1; omega)).read
   have hU : ∀ z ∈ L', RowOn (wr.setCell ⟨b6, 0, none⟩ (.slice pv L'.length cv)) z := fun z hz => by
    rcases (H5.out z hz).2 with h | h
    ·exact (H5.out z hz).1.off (upd_set _ _ _ _) (.inl h)
    ·exact (H5.out z hz).1.off (upd_set _ _ _ _) (.inr fun a ha e => by
      rcases (h a ha).2 with h | h
      ·have := HXP.out a h; omega
      ·omega)
   have hT := H2.out.set 0 (.slice pv L'.length cv)
   have hG := H7.out.set c5' (i := 0) (.slice pv L'.length cv)
   clear q0 q1 o0 p0
   generalize wr.setCell _ _ = W9 at hR hU hT hG ⊢
   have y0 := hT.at 0 rfl
   refine bodyPost_ret (by simp [results, Tryz.results77, go_sem, y0]; rfl) rfl ?_
   have hfin : usOf L' = withP (usOf L) item x.us := by rw [H6.out, List.take_of_length_le (by rw [withP_len, usOf_len]; omega)]
   refine ⟨_, rfl, hG, pv, cv, L', rfl, ⟨hR, hU, by have := HLL.out; omega, fun z hz => ?_⟩, fun a ha => ?_, fun z hz => ?_, hfin⟩
   rotate_left
   ·rcases H4.out.2 with ⟨hv, _⟩ | ⟨g, cap, cur, hv, hg, _⟩
    ·injection hv with e _ _; rw [e] at ha; cases ha
    ·injection hv with e _ _
     rw [e] at ha
     injection ha with ha
     subst ha
     exact Nat.le_trans c8' hg
   ·rcases (H5.out z hz).2 with h | h
    ·exact .inl h
    ·refine .inr fun a ha => ?_
     rcases (h a ha).2 with h | h
     ·split at h
      ·cases h
      ·exact .inl h
     ·exact .inr (Nat.le_trans c8' h)
   have hzm : z.us ∈ withP (usOf L) item x.us := by rw [← hfin]; exact List.mem_map_of_mem hz
   have : z.us.length ≤ 1000 := by
    unfold withP at hzm
    split at hzm
    ·rcases List.mem_or_eq_of_mem_set hzm with h | h
     ·exact HF.out.2 _ h
     ·rw [h]; exact HXL.out
    ·exact HF.out.2 _ hzm
   omega
end Go.Proofs.YtchpbaaabnkkkaaGreatDoor

/-
  placement.Put, Drop.
  placement.Drop; the closure of Put, Put.
-/
import Derived.Test.YtchpbaaabnkkkaaGreatDoorPlC
import Derived.Test.YtchpbaaabnkkkaaGreatDoorCatP
namespace Go.Proofs.YtchpbaaabnkkkaaGreatDoor
open Go.RowKit Go.Lib Lex
set_option linter.unusedVariables false
set_option linter.unusedSimpArgs false

theorem SlL.full {α : Type} {enc : α → List Value} {sz : Nat} {w : World} {p : Option Addr} {n c : Nat} {l : List α} (he : ∀ x, (enc x).length = sz) (h : SlL w sz enc (.slice p n c) l) {k : Nat} (hk : k ≤ l.length) : SlL w sz enc (.slice p k k) (l.take k) := by
 have hn : l.length = n := by
  obtain ⟨p', c', hv, _⟩ := h.parts
  injection hv with _ h2 _
  exact h2.symm
 obtain ⟨h0, p', c', hv, h1, h2, h3⟩ := h
 injection hv with e1 e2 e3
 subst e1 e3
 have hl : (l.take k).length = k := by rw [List.length_take]; omega
 unfold SlL
 rw [hl]
 refine ⟨by rw [flat_len he, hl], p, k, rfl, Nat.le_refl _, by omega, ?_⟩
 rcases h3 with h3 | ⟨b, o, hp, hc⟩
 ·left; omega
 ·refine .inr ⟨b, o, hp, fun j u hj => hc j u ?_⟩
  have e : l.flatMap enc = (l.take k).flatMap enc ++ (l.drop k).flatMap enc := by rw [← List.flatMap_append, List.take_append_drop]
  rw [e, List.getElem?_append_left (by exact (List.getElem?_eq_some_iff.1 hj).1)]
  exact hj
theorem SlL.rest {α : Type} {enc : α → List Value} {sz : Nat} {w : World} {b o n c : Nat} {l : List α} (he : ∀ x, (enc x).length = sz) (h : SlL w sz enc (.slice (some ⟨b, o, none⟩) n c) l) {k : Nat} (hk : k ≤ l.length) (q : Option Addr) (hq : q = some ⟨b, o + k * sz, none⟩ ∨ c = k) : SlL w sz enc (.slice q (n - k) (c - k)) (l.drop k) := by
 have hn : l.length = n := by
  obtain ⟨p', c', hv, _⟩ := h.parts
  injection hv with _ h2 _
  exact h2.symm
 obtain ⟨h0, p', c', hv, h1, h2, h3⟩ := h
 injection hv with e1 e2 e3
 subst e1 e3
 have hl : (l.drop k).length = n - k := by rw [List.length_drop, hn]
 unfold SlL
 rw [hl]
 refine ⟨by rw [flat_len he, hl], q, c - k, rfl, by omega, by omega, ?_⟩
 rcases hq with hq | hq
 ·rcases h3 with h3 | ⟨b', o', hp, hc⟩
  ·left; omega
  ·injection hp with hp
   injection hp with e1 e2 _
   subst e1 e2
   refine .inr ⟨b, o + k * sz, hq, fun j u hj => ?_⟩
   have := hc (k * sz + j) u (by
    have e : l.flatMap enc = (l.take k).flatMap enc ++ (l.drop k).flatMap enc := by rw [← List.flatMap_append, List.take_append_drop]
    have hlt : (List.flatMap enc (l.take k)).length = k * sz := by rw [flat_len he, List.length_take, Nat.min_eq_left hk]
    rw [e, List.getElem?_append_right (by rw [hlt]; omega), hlt, show k * sz + j - k * sz = j by omega]
    exact hj)
   rw [← Nat.add_assoc] at this
   exact this
 ·left; omega
theorem SlL.restP {α : Type} {enc : α → List Value} {sz : Nat} {w : World} {p : Option Addr} {n c : Nat} {l : List α} (he : ∀ x, (enc x).length = sz) (h : SlL w sz enc (.slice p n c) l) {k : Nat} (hk : k ≤ l.length) : SlL w sz enc (.slice (if c = k then p else Option.map (fun x => x.add (k * sz)) p) (n - k) (c - k)) (l.drop k) := by
 by_cases hc : c = k
 ·rw [if_pos hc]
  have hn : l.length = n := by
   obtain ⟨p', c', hv, _⟩ := h.parts
   injection hv with _ h2 _
   exact h2.symm
  have hcn : n ≤ c := by
   obtain ⟨p', c', hv, h1, _⟩ := h.parts
   injection hv with e1 e2 e3
   omega
  have hnil : l.drop k = [] := List.drop_eq_nil_of_le (by omega)
  rw [hnil, show n - k = 0 by omega, show c - k = 0 by omega]
  exact ⟨by simp, p, 0, rfl, Nat.le_refl _, by omega, .inl rfl⟩
 ·rw [if_neg hc]
  have hp : ∃ b o, p = some ⟨b, o, none⟩ ∨ c = 0 := by
   obtain ⟨h0, p', c', hv, h1, h2, h3⟩ := h
   injection hv with e1 e2 e3
   subst e1 e3
   rcases h3 with h3 | ⟨b, o, hp, _⟩
   ·exact ⟨0, 0, .inr h3⟩
   ·exact ⟨b, o, .inl hp⟩
  obtain ⟨b, o, hp | hp⟩ := hp
  ·subst hp
   exact SlL.rest he h hk _ (.inl (by simp [addr_add0]))
  ·have hn : l.length = n := by
    obtain ⟨p', c', hv, _⟩ := h.parts
    injection hv with _ h2 _
    exact h2.symm
   have hcn : n ≤ c := by
    obtain ⟨p', c', hv, h1, _⟩ := h.parts
    injection hv with e1 e2 e3
    omega
   omega
theorem past_prd (w : World) (b : Nat) (m : Int) (hb : Cells w b #[.int .i64 m]) : PrdB w (.func (.func 72) #[] #[.pointer (some ⟨b, 0, none⟩)]) encU (past m) := by
 refine ⟨_, _, rfl, enters_of Tryz.func72 (by kernel_rfl) rfl, fun w' g x => ?_⟩
 have B := Cells.new w' #[.int .i64 x.mach, .int .i64 x.st] 74
 have u0 := B.2.at 0 rfl
 have d0 := (hb.grow (g.trans B.1)).at 0 rfl
 have G := Lib.hid B.1
 clear B g hb
 show Calls _ _ #[.agg #[.int .i64 x.mach, .int .i64 x.st], .pointer (some ⟨b, 0, none⟩)] _ _
 go_enter Tryz.func72, Tryz.ntmps72
 go_wp2_with fail
 go_ret
 exact ⟨_, rfl, G.out, rfl⟩
theorem drop_in {l : List UnitM} {m : Int} {k : Nat} (h : l.findIdx? (onMach m) = some k) : dropL l m = l.take k ++ l.drop (k + 1) := by unfold dropL; rw [h]
theorem drop_out {l : List UnitM} {m : Int} (h : l.findIdx? (onMach m) = none) : dropL l m = l := by unfold dropL; rw [h]
theorem unit_row {w : World} {base : Nat} {x : RowU} (h : OwnU w base (rowV x) x.us) {k : Nat} {u : UnitM} (hu : x.us[k]? = some u) : ∃ g, x.p = some ⟨g, 0, none⟩ ∧ (rowV x).ownBlock = some g ∧ base ≤ g ∧ g < w.heap.size ∧ x.us.length ≤ x.c := by
 have hk := (List.getElem?_eq_some_iff.1 hu).1
 obtain ⟨g, cap, hv, h1, h2, h3, _⟩ := OwnL.made h (by omega)
 unfold rowV at hv ⊢
 injection hv with e1 e2 e3
 rw [e1]
 exact ⟨g, rfl, rfl, h1, h2, by omega⟩
set_option maxRecDepth 100000 in
set_option maxHeartbeats 1600000 in
theorem drop_clo (w : World) (b : Nat) (X : List UnitM) (m : Int) (hb : Cells w b #[.int .i64 (firstAt (onMach m) X)]) (hX : X.length ≤ 1000) :
  ChangeFn w (.func (.func 73) #[] #[.pointer (some ⟨b, 0, none⟩)]) X (dropL X m) := by
 refine ⟨_, _, rfl, enters_of Tryz.func73 (by kernel_rfl) rfl, fun w1 x g hx ho => ?_⟩
 have TB := Lib.hid (hb.grow g)
 have HO := Lib.hid ho
 have HX := Lib.hid hx
 clear hb g ho hx
 show Calls _ _ #[rowV x, .pointer (some ⟨b, 0, none⟩)] _ _
 rcases firstAt_cases (onMach m) X with ⟨h1, _, h2⟩ | ⟨k, u, h1, h2, _, _, h3⟩
 ·have HD := Lib.hid (drop_out h2)
  rw [h1] at TB
  have d0 := TB.out.at 0 rfl
  clear h1 h2
  unfold rowV
  go_enter Tryz.func73, Tryz.ntmps73
  go_wp2_with fail
  try rw [Exit.noGoto_ret]
  go_ret
  exact ⟨x, rfl, by rw [HD.out]; exact HX.out, HO.out.read, ⟨rfl, rfl, rfl, Nat.le_refl _, fun _ _ _ => rfl⟩, fun a ha => .inl (own_ptr HO.out a ha).2.symm⟩
 ·have HD := Lib.hid (drop_in h3)
  rw [h1] at TB
  rw [← HX.out] at h2
  obtain ⟨g, hp, hob, hg1, hg2, hcap⟩ := unit_row HO.out h2
  have hk := (List.getElem?_eq_some_iff.1 h2).1
  obtain ⟨px, cx, lx⟩ := x
  dsimp only at hp hk hcap HX
  subst hp
  have d0 : ∀ w', Gr w1 w' → w'.cell? ⟨b, 0, none⟩ = some (.int .i64 (k : Int)) := TB.out.c 0 rfl
  have HOB := Lib.hid hob
  clear h1 h2 h3 hob
  unfold rowV
  go_enter Tryz.func73, Tryz.ntmps73
  have d1 := d0 _ (Gr.refl _)
  have hlx : lx.length ≤ 1000 := by rw [HX.out]; exact hX
  have hk1 : IntKind.i64.wrap ((k : Int) + 1) = (k : Int) + 1 := by rw [IntKind.wrap_i64]; omega
  have hkl : (k : Int) + 1 ≤ (lx.length : Int) := by omega
  have hkc : (k : Int) ≤ (cx : Int) := by omega
  have hkc2 : k ≤ cx := by omega
  have hlc : (lx.length : Int) ≤ (cx : Int) := by omega
  go_wp2_with fail
  clear d1
  have g0 : Gr w1 w1.drew := (Gr.refl _).drew
  refine wp_region_fast [(0, true), (1, true), (2, true), (3, true), (4, true), (5, true), (6, true), (7, true), (8, false), (9, true)] (by kernel_rfl) (by kernel_rfl) rfl (by kernel_rfl) (fun _ _ d _ _ h => by cases d <;> exact h) ?_
  repeat (refine wpE_readB (v := ?_) g0 rfl rfl (fun w' hg => ?_) (fun K hK => ?_); rotate_left; (go_simp; rfl); go_simp; refine hK _ _ ?_; clear hK K)
  obtain ⟨q, hq⟩ : ∃ q, (if cx = k + 1 then some (⟨g, 0, none⟩ : Addr) else some ⟨g, (k + 1) * 2, none⟩) = q := ⟨_, rfl⟩
  rw [hq]
  have hqq : q = some ⟨g, 0 + (k + 1) * 2, none⟩ ∨ cx = k + 1 := by
   rw [← hq, Nat.zero_add]
   split
   ·next h => exact .inr h
   ·exact .inl rfl
  have hon : UnL w1.drew (.slice (some ⟨g, 0, none⟩) lx.length cx) lx := SlL.grow (show UnL w1 _ lx from HO.out.read) g0
  have s1 := SlL.full encU_len hon (k := k) (by omega)
  have s2 := SlL.rest encU_len hon (k := k + 1) (by omega) q hqq
  have hl1 : (lx.take k).length = k := by rw [List.length_take]; omega
  have hl2 : (lx.drop (k + 1)).length = lx.length - (k + 1) := List.length_drop
  refine wpE_do rfl rfl (fun K hK => ?_)
  by_cases hem : k + 1 = lx.length
  ·refine wp_append0 _ _ 71 74 _ 16 rfl Tryz.underlying71 unit_info (some ⟨g, 0, none⟩) q k k (cx - (k + 1)) rfl (Nat.le_refl _) (.inl (fun h => by cases h)) (by show Value.slice q (lx.length - (k + 1)) (cx - (k + 1)) = _; rw [← hem, Nat.sub_self]) ?_
   refine ⟨fun _ => Gr.refl _, hK _ _ ?_⟩
   clear hK K
   repeat (refine wpE_readB (v := ?_) g0 rfl rfl (fun w' hg => ?_) (fun K hK => ?_); rotate_left; (go_simp; rfl); go_simp; refine hK _ _ ?_; clear hK K)
   refine wpE_nil ?_
   clear d0
   go_wp2_with fail
   go_ret
   refine ⟨⟨some ⟨g, 0, none⟩, k, lx.take k⟩, (by show Ending.returned (.slice (some ⟨g, 0, none⟩) k k) = Ending.returned (.slice (some ⟨g, 0, none⟩) (lx.take k).length k); rw [hl1]), ?_, ?_, gr_grown g0 _, fun a ha => ?_⟩
   ·rw [HD.out, ← HX.out, List.drop_eq_nil_of_le (by omega), List.append_nil]
   ·show UnL _ (.slice (some ⟨g, 0, none⟩) (lx.take k).length k) _
    rw [hl1]
    exact s1
   ·injection ha with ha
    subst ha
    exact .inl rfl
  ·refine wp_appendS _ _ 71 74 _ 16 rfl Tryz.underlying71 unit_info rfl (by decide) encU_len (some ⟨g, 0, none⟩) (.slice q (lx.length - (k + 1)) (cx - (k + 1))) (lx.take k) (lx.drop (k + 1)) (by rw [hl1]; rfl) (by rw [hl1]; exact s1) rfl s2 (by omega) (by rw [hl1, hl2]; omega) (by rw [hl1, hl2]; omega) ?_
   intro v' w3 ho3 g3 hb3
   refine ⟨fun _ => g3, hK _ _ ?_⟩
   clear hK K
   obtain ⟨p', c', hv', _, _⟩ := ho3.read.parts
   obtain ⟨N, hN⟩ : ∃ N, (lx.take k ++ lx.drop (k + 1)).length = N := ⟨_, rfl⟩
   have HN := Lib.hid hN
   rw [hN] at hv'
   subst hv'
   clear hN
   have g1 := Gr.refl w3
   repeat (refine wpE_readB (v := ?_) g1 rfl rfl (fun w' hg => ?_) (fun K hK => ?_); rotate_left; (go_simp; rfl); go_simp; refine hK _ _ ?_; clear hK K)
   refine wpE_nil ?_
   clear d0
   go_wp2_with fail
   go_ret
   have ho4 : OwnU w3 w1.drew.heap.size (rowV ⟨p', c', lx.take k ++ lx.drop (k + 1)⟩) (lx.take k ++ lx.drop (k + 1)) := by
    show OwnU w3 _ (.slice p' (lx.take k ++ lx.drop (k + 1)).length c') _
    rw [HN.out]
    exact ho3
   refine ⟨⟨p', c', lx.take k ++ lx.drop (k + 1)⟩, (by show Ending.returned (.slice p' N c') = Ending.returned (.slice p' (lx.take k ++ lx.drop (k + 1)).length c'); rw [HN.out]), ?_, ho4.read, gr_grown (g0.trans g3) _, fun a ha => .inr ?_⟩
   ·rw [HD.out, ← HX.out]
   ·exact (own_ptr (x := ⟨p', c', lx.take k ++ lx.drop (k + 1)⟩) ho4 a ha).1
end Go.Proofs.YtchpbaaabnkkkaaGreatDoor
namespace Go.Proofs.YtchpbaaabnkkkaaGreatDoor
open Go.RowKit Go.Lib Lex
set_option linter.unusedVariables false
set_option linter.unusedSimpArgs false

theorem dropL_len (l : List UnitM) (m : Int) : (dropL l m).length ≤ l.length := by
 unfold dropL
 split
 ·simp only [List.length_append, List.length_take, List.length_drop]; omega
 ·exact Nat.le_refl _
theorem putL_len (l : List UnitM) (u : UnitM) : (putL l u).length ≤ l.length + 1 := by
 unfold putL
 split
 ·simp
 ·simp only [List.length_append, List.length_take, List.length_cons, List.length_drop]; omega
def PlcRes (w : World) (X : Plc) (r : Value) (w' : World) : Prop := ∃ p' c' L', r = plcV p' c' L' ∧ PlcNew w' w.heap.size p' c' L' ∧ usOf L' = X
set_option maxRecDepth 100000 in
set_option maxHeartbeats 800000 in
theorem plc_Drop (w : World) (p : Option Addr) (c : Nat) (L : List RowU) (item m : Int) (hp : PlcAt w p c L) (hf : FewK (usOf L)) :
  Calls Tryz.prog 29 #[plcV p c L, .int .i64 item, .int .i64 m] w (Ret w fun r w' => PlcRes w (dropP (usOf L) item m) r w') := by
 have HF := Lib.hid hf
 have B0 := Cells.new w #[.slice p L.length c] 34
 have B1 := Cells.new (w.alloc (.cells #[.slice p L.length c] 34)) #[.slice none 0 0] 34
 simp only [World.size_alloc] at B1
 have p0 := (B0.2.grow B1.1).at 0 rfl
 have H := Lib.hid (show _ ∧ _ ∧ _ from ⟨B0.1.trans B1.1, B0.2.grow B1.1, B1.2⟩)
 have HP := Lib.hid (hp.grow (B0.1.trans B1.1))
 clear B0 B1 hp hf
 unfold plcV
 go_enter Tryz.func29, Tryz.ntmps29
 go_wp2_with fail
 clear p0
 generalize hb6 : w.heap.size + 1 = b6 at H ⊢
 generalize hbp : w.heap.size = bp at H ⊢
 generalize (w.alloc _).alloc _ = W at H HP ⊢
 have G := Lib.hid H.out.1
 have TP := Lib.hid H.out.2.1
 have T6 := Lib.hid H.out.2.2
 have HB6 := Lib.hid (show ¬ b6 < w.heap.size by omega)
 clear hb6 hbp H
 refine (plc_find W p c L item m HP.out HF.out).mono ?_
 rintro _ w1 ⟨_, rfl, g1, rfl⟩
 have G := Lib.hid (G.out.trans g1)
 have TP := Lib.hid (TP.out.grow g1)
 have T6 := Lib.hid (T6.out.grow g1)
 have HP := Lib.hid (HP.out.grow g1)
 clear g1
 unfold idxP
 have B := Cells.new w1 #[.int .i64 (firstAt (onMach m) (unitsP (usOf L) item))] 3
 have p0 := (TP.out.grow B.1).at 0 rfl
 have g1 := B.1
 have T7 := Lib.hid B.2
 clear B
 have G := Lib.hid (G.out.trans g1)
 have TP := Lib.hid (TP.out.grow g1)
 have T6 := Lib.hid (T6.out.grow g1)
 have HP := Lib.hid (HP.out.grow g1)
 clear g1
 go_wp2_with fail
 clear p0
 generalize w1.heap.size = b7 at T7 ⊢
 generalize w1.alloc _ = W2 at T7 TP T6 HP G ⊢
 have HS2 := Lib.hid G.out.size
 refine (plc_with W2 p c L item _ (dropL (unitsP (usOf L) item) m) HP.out HF.out (drop_clo W2 b7 _ m T7.out (unitsP_few HF.out item)) (Nat.le_trans (dropL_len _ _) (unitsP_few HF.out item))).mono ?_
 rintro _ w3 ⟨_, rfl, g3, p', c', L', rfl, hn, hu⟩
 have HN := Lib.hid hn
 have HU := Lib.hid hu
 have HL6 := Lib.hid T6.out.lt
 have T6 := Lib.hid (T6.out.grow g3)
 have G := Lib.hid (G.out.trans g3)
 have q0 := T6.out.at 0 rfl
 have q1 := Cells.f T6.out 0
 clear hn hu g3
 unfold plcV
 go_wp2_with fail
 clear q0 q1
 have hn := HN.out.other (b := b6) (i := 0) (u := .slice p' L'.length c') HL6.out
 have hT := T6.out.set 0 (.slice p' L'.length c')
 have hG := G.out.set HB6.out (i := 0) (.slice p' L'.length c')
 generalize w3.setCell _ _ = W4 at hn hT hG ⊢
 have y0 := hT.at 0 rfl
 refine bodyPost_ret (by simp [results, Tryz.results29, go_sem, y0]; rfl) rfl ?_
 exact ⟨_, rfl, hG, p', c', L', rfl, hn.mono HS2.out, HU.out⟩
theorem put_in {l : List UnitM} {m s : Int} {k : Nat} (h : l.findIdx? (onMach m) = some k) : putL l ⟨m, s⟩ = l.set k ⟨m, s⟩ := by unfold putL; rw [h]
theorem put_out {l : List UnitM} {m s : Int} {k : Nat} (h : l.findIdx? (onMach m) = none) (hk : spotL l m = k) : putL l ⟨m, s⟩ = l.take k ++ ⟨m, s⟩ :: l.drop k := by
 unfold putL
 rw [h]
 dsimp only
 rw [hk]
theorem set_grown2 (w : World) (g i j : Nat) (u v : Value) : w.grownBy ((w.setCell ⟨g, i, none⟩ u).setCell ⟨g, j, none⟩ v) (some g) := grown_trans grown_set grown_set
set_option maxRecDepth 100000 in
set_option maxHeartbeats 1600000 in
theorem put_clo (w : World) (bp bi bm bu : Nat) (p : Option Addr) (c : Nat) (L : List RowU) (item m s : Int) (hp : PlcAt w p c L) (hf : FewK (usOf L)) (h1 : Cells w bp #[.slice p L.length c]) (h2 : Cells w bi #[.int .i64 item]) (h3 : Cells w bm #[.int .i64 m]) (h4 : Cells w bu #[.int .i64 m, .int .i64 s]) :
  ChangeFn w (.func (.func 69) #[] #[.pointer (some ⟨bp, 0, none⟩), .pointer (some ⟨bi, 0, none⟩), .pointer (some ⟨bm, 0, none⟩), .pointer (some ⟨bu, 0, none⟩)]) (unitsP (usOf L) item) (putL (unitsP (usOf L) item) ⟨m, s⟩) := by
 refine ⟨_, _, rfl, enters_of Tryz.func69 (by kernel_rfl) rfl, fun w1 x g hx ho => ?_⟩
 have HF := Lib.hid hf
 have HP := Lib.hid (hp.grow g)
 have TP := Lib.hid (h1.grow g)
 have TI := Lib.hid (h2.grow g)
 have TM := Lib.hid (h3.grow g)
 have TU := Lib.hid (h4.grow g)
 have HO := Lib.hid ho
 have HX := Lib.hid hx
 have hlx : x.us.length ≤ 1000 := by rw [hx]; exact unitsP_few hf item
 clear hp hf h1 h2 h3 h4 ho hx g
 show Calls _ _ #[rowV x, .pointer (some ⟨bp, 0, none⟩), .pointer (some ⟨bi, 0, none⟩), .pointer (some ⟨bm, 0, none⟩), .pointer (some ⟨bu, 0, none⟩)] _ _
 have p0 := TP.out.at 0 rfl
 have i0 := TI.out.at 0 rfl
 have m0 := TM.out.at 0 rfl
 obtain ⟨px, cx, lx⟩ := x
 dsimp only at hlx
 unfold rowV
 go_enter Tryz.func69, Tryz.ntmps69
 go_wp2_with fail
 clear p0 i0 m0
 refine (plc_find w1 p c L item m HP.out HF.out).mono ?_
 rintro _ w2 ⟨_, rfl, g2, rfl⟩
 have G := Lib.hid (Gr.refl w1)
 have G := Lib.hid (G.out.trans g2)
 have TP := Lib.hid (TP.out.grow g2)
 have TI := Lib.hid (TI.out.grow g2)
 have TM := Lib.hid (TM.out.grow g2)
 have TU := Lib.hid (TU.out.grow g2)
 have HO := Lib.hid (HO.out.grow g2)
 clear g2
 unfold idxP
 have HX := Lib.hid (show lx = unitsP (usOf L) item from HX.out)
 rw [← HX.out]
 rcases firstAt_cases (onMach m) lx with ⟨h1, _, h2⟩ | ⟨k, u, h1, h2, hu, _, h3⟩
 ·rw [h1]
  have H2 := Lib.hid h2
  clear h1 h2
  go_wp2_with fail
  refine (unit_indexB w2 px lx.length cx lx _ (past m) (show UnL w2 _ lx from HO.out.read) rfl (by omega) (past_prd w2 bm m TM.out)).mono ?_
  rintro _ w3 ⟨_, rfl, g3, rfl⟩
  have G := Lib.hid (G.out.trans g3)
  have TP := Lib.hid (TP.out.grow g3)
  have TI := Lib.hid (TI.out.grow g3)
  have TM := Lib.hid (TM.out.grow g3)
  have TU := Lib.hid (TU.out.grow g3)
  have HO := Lib.hid (HO.out.grow g3)
  clear g3
  have hcap : lx.length ≤ cx := by
   obtain ⟨_, _, hv, hc, _⟩ := HO.out.read.parts
   change Value.slice px lx.length cx = _ at hv
   injection hv with e1 e2 e3
   change lx.length ≤ _ at hc
   omega
  have hcI : (lx.length : Int) ≤ (cx : Int) := by omega
  rcases firstAt_cases (past m) lx with ⟨h1, _, h3⟩ | ⟨k, v, h1, h2, _, _, h3⟩
  ·rw [h1]
   have HPO := Lib.hid (put_out (s := s) H2.out (show spotL lx m = lx.length by unfold spotL; rw [h3]))
   clear h1 h3
   go_wp2_with fail
   have u0 := TU.out.c 0 rfl
   have u1 := TU.out.c 1 rfl
   have g0 : Gr w3 w3.drew := (Gr.refl _).drew
   refine wp_region_loose w3 (.read 0 (.read 1 (.read 2 (.read 3 (.read 4 (.read 7 (.read 8 (.read 9 (.one 5 (.one 6 (.one 10 (.read 11 .stop)))))))))))) (Gr.refl _) (by kernel_rfl) (by kernel_rfl) rfl (by kernel_rfl) (fun _ _ d _ _ h => by cases d <;> exact h) ?_
   repeat (refine wpL_read (v := ?_) rfl rfl (fun w' hg => ?_) (fun K hK => ?_); rotate_left; (go_simp; rfl); go_simp; refine hK _ _ ?_; clear hK K)
   have hon : UnL w3 (.slice px lx.length cx) lx := HO.out.read
   have s1 := SlL.full encU_len hon (k := lx.length) (by omega)
   have s2 := SlL.restP encU_len hon (k := lx.length) (by omega)
   obtain ⟨q, hq⟩ : ∃ q, (if cx = lx.length then px else Option.map (fun x => x.add (lx.length * 2)) px) = q := ⟨_, rfl⟩
   rw [hq] at s2 ⊢
   clear hq
   rw [Nat.sub_self] at s2
   have hl1 : (lx.take lx.length).length = lx.length := by rw [List.length_take]; omega
   have hl2 : (lx.drop lx.length).length = lx.length - lx.length := List.length_drop
   generalize w3.drew = W5 at g0 ⊢
   refine wpL_val (v := ?_) (w' := ?_) rfl rfl ?_ ?_ (fun K hK => ?_)
   rotate_left 2
   ·go_simp; first | rfl | (constructor <;> rfl)
   ·exact g0.alloc _
   go_simp
   refine hK _ _ ?_
   clear hK K
   have B := SlL.new W5 74 encU_len [(⟨m, s⟩ : UnitM)] #[.int .i64 m, .int .i64 s] 1 rfl rfl (by decide)
   have su := B.2
   have g6 := g0.trans B.1
   clear B
   generalize W5.heap.size = b8 at su ⊢
   generalize W5.alloc _ = W6 at su g6 ⊢
   refine wpL_do rfl rfl (fun K hK => ?_)
   refine wp_appendS _ _ 71 74 _ 16 rfl Tryz.underlying71 unit_info rfl (by decide) encU_len px _ (lx.take lx.length) [(⟨m, s⟩ : UnitM)] (by rw [hl1]; rfl) (by rw [hl1]; exact SlL.grow s1 g6) rfl su (by simp) (by rw [hl1]; simp; omega) (by rw [hl1]; simp; omega) ?_
   intro v7 W7 ho7 g7 _
   refine ⟨g6.trans g7, hK _ _ ?_⟩
   clear hK K
   refine wpL_do rfl rfl (fun K hK => ?_)
   refine wp_appendL _ _ 71 74 _ 16 rfl Tryz.underlying71 unit_info rfl (by decide) encU_len encU_one W6.heap.size v7 _ (lx.take lx.length ++ [(⟨m, s⟩ : UnitM)]) (lx.drop lx.length) rfl ho7 rfl (SlL.grow s2 (g6.trans g7)) (by rw [List.length_append, hl1, hl2]; simp; omega) (by rw [List.length_append, hl1, hl2]; simp; omega) g7.size ?_
   intro v8 W8 ho8 k8
   have g68 := ho7.gr g7 k8
   refine ⟨g6.trans g68, hK _ _ ?_⟩
   clear hK K
   have ho8 := ho8
   rw [List.append_assoc, List.singleton_append, ← HPO.out] at ho8
   obtain ⟨p8, c8, hv8, _, _⟩ := ho8.read.parts
   obtain ⟨N, hN⟩ : ∃ N, (putL lx ⟨m, s⟩).length = N := ⟨_, rfl⟩
   have HN := Lib.hid hN
   rw [hN] at hv8
   subst hv8
   clear hN
   repeat (refine wpL_read (v := ?_) rfl rfl (fun w' hg => ?_) (fun K hK => ?_); rotate_left; (go_simp; rfl); go_simp; refine hK _ _ ?_; clear hK K)
   refine wpL_stop ?_
   have G8 := Lib.hid (G.out.trans (g6.trans g68))
   have hle : w1.heap.size ≤ W6.heap.size := (G.out.trans g6).size
   clear u0 u1 g0 g6 g7 g68 su s1 s2 k8 ho7 hon hl1 hl2
   go_wp2_with fail
   go_ret
   have ho9 : OwnU W8 W6.heap.size (rowV ⟨p8, c8, putL lx ⟨m, s⟩⟩) (putL lx ⟨m, s⟩) := by
    show OwnU W8 _ (.slice p8 (putL lx ⟨m, s⟩).length c8) _
    rw [HN.out]
    exact ho8
   refine ⟨⟨p8, c8, putL lx ⟨m, s⟩⟩, (by show Ending.returned (.slice p8 N c8) = Ending.returned (.slice p8 (putL lx ⟨m, s⟩).length c8); rw [HN.out]), ?_, ho9.read, gr_grown G8.out _, fun a ha => .inr ?_⟩
   ·rw [← HX.out]
   ·exact Nat.le_trans hle (own_ptr (x := ⟨p8, c8, putL lx ⟨m, s⟩⟩) ho9 a ha).1
  ·rw [h1]
   have HPO := Lib.hid (put_out (s := s) H2.out (show spotL lx m = k by unfold spotL; rw [h3]))
   have hk := (List.getElem?_eq_some_iff.1 h2).1
   have hk0 : (0 : Int) ≤ (k : Int) := by omega
   have hkl : (k : Int) ≤ (lx.length : Int) := by omega
   have hkl2 : (k : Int) ≤ (cx : Int) := by omega
   clear h1 h2 h3
   go_wp2_with fail
   have u0 := TU.out.c 0 rfl
   have u1 := TU.out.c 1 rfl
   have g0 : Gr w3 w3.drew := (Gr.refl _).drew
   refine wp_region_loose w3 (.read 0 (.read 1 (.read 2 (.read 3 (.read 4 (.read 7 (.read 8 (.read 9 (.one 5 (.one 6 (.one 10 (.read 11 .stop)))))))))))) (Gr.refl _) (by kernel_rfl) (by kernel_rfl) rfl (by kernel_rfl) (fun _ _ d _ _ h => by cases d <;> exact h) ?_
   repeat (refine wpL_read (v := ?_) rfl rfl (fun w' hg => ?_) (fun K hK => ?_); rotate_left; (go_simp; rfl); go_simp; refine hK _ _ ?_; clear hK K)
   have hon : UnL w3 (.slice px lx.length cx) lx := HO.out.read
   have s1 := SlL.full encU_len hon (k := k) (by omega)
   have s2 := SlL.restP encU_len hon (k := k) (by omega)
   obtain ⟨q, hq⟩ : ∃ q, (if cx = k then px else Option.map (fun x => x.add (k * 2)) px) = q := ⟨_, rfl⟩
   rw [hq] at s2 ⊢
   clear hq
   skip
   have hl1 : (lx.take k).length = k := by rw [List.length_take]; omega
   have hl2 : (lx.drop k).length = lx.length - k := List.length_drop
   generalize w3.drew = W5 at g0 ⊢
   refine wpL_val (v := ?_) (w' := ?_) rfl rfl ?_ ?_ (fun K hK => ?_)
   rotate_left 2
   ·go_simp; first | rfl | (constructor <;> rfl)
   ·exact g0.alloc _
   go_simp
   refine hK _ _ ?_
   clear hK K
   have B := SlL.new W5 74 encU_len [(⟨m, s⟩ : UnitM)] #[.int .i64 m, .int .i64 s] 1 rfl rfl (by decide)
   have su := B.2
   have g6 := g0.trans B.1
   clear B
   generalize W5.heap.size = b8 at su ⊢
   generalize W5.alloc _ = W6 at su g6 ⊢
   refine wpL_do rfl rfl (fun K hK => ?_)
   refine wp_appendS _ _ 71 74 _ 16 rfl Tryz.underlying71 unit_info rfl (by decide) encU_len px _ (lx.take k) [(⟨m, s⟩ : UnitM)] (by rw [hl1]; rfl) (by rw [hl1]; exact SlL.grow s1 g6) rfl su (by simp) (by rw [hl1]; simp; omega) (by rw [hl1]; simp; omega) ?_
   intro v7 W7 ho7 g7 _
   refine ⟨g6.trans g7, hK _ _ ?_⟩
   clear hK K
   refine wpL_do rfl rfl (fun K hK => ?_)
   refine wp_appendL _ _ 71 74 _ 16 rfl Tryz.underlying71 unit_info rfl (by decide) encU_len encU_one W6.heap.size v7 _ (lx.take k ++ [(⟨m, s⟩ : UnitM)]) (lx.drop k) rfl ho7 rfl (SlL.grow s2 (g6.trans g7)) (by rw [List.length_append, hl1, hl2]; simp; omega) (by rw [List.length_append, hl1, hl2]; simp; omega) g7.size ?_
   intro v8 W8 ho8 k8
   have g68 := ho7.gr g7 k8
   refine ⟨g6.trans g68, hK _ _ ?_⟩
   clear hK K
   have ho8 := ho8
   rw [List.append_assoc, List.singleton_append, ← HPO.out] at ho8
   obtain ⟨p8, c8, hv8, _, _⟩ := ho8.read.parts
   obtain ⟨N, hN⟩ : ∃ N, (putL lx ⟨m, s⟩).length = N := ⟨_, rfl⟩
   have HN := Lib.hid hN
   rw [hN] at hv8
   subst hv8
   clear hN
   repeat (refine wpL_read (v := ?_) rfl rfl (fun w' hg => ?_) (fun K hK => ?_); rotate_left; (go_simp; rfl); go_simp; refine hK _ _ ?_; clear hK K)
   refine wpL_stop ?_
   have G8 := Lib.hid (G.out.trans (g6.trans g68))
   have hle : w1.heap.size ≤ W6.heap.size := (G.out.trans g6).size
   clear u0 u1 g0 g6 g7 g68 su s1 s2 k8 ho7 hon hl1 hl2
   go_wp2_with fail
   go_ret
   have ho9 : OwnU W8 W6.heap.size (rowV ⟨p8, c8, putL lx ⟨m, s⟩⟩) (putL lx ⟨m, s⟩) := by
    show OwnU W8 _ (.slice p8 (putL lx ⟨m, s⟩).length c8) _
    rw [HN.out]
    exact ho8
   refine ⟨⟨p8, c8, putL lx ⟨m, s⟩⟩, (by show Ending.returned (.slice p8 N c8) = Ending.returned (.slice p8 (putL lx ⟨m, s⟩).length c8); rw [HN.out]), ?_, ho9.read, gr_grown G8.out _, fun a ha => .inr ?_⟩
   ·rw [← HX.out]
   ·exact Nat.le_trans hle (own_ptr (x := ⟨p8, c8, putL lx ⟨m, s⟩⟩) ho9 a ha).1
 ·rw [h1]
  have HPI := Lib.hid (put_in (s := s) h3)
  have hk := (List.getElem?_eq_some_iff.1 h2).1
  obtain ⟨gx, hpx, hob, hg1, hg2, hcap⟩ := unit_row HO.out h2
  dsimp only at hpx hcap
  subst hpx
  have hk0 : (0 : Int) ≤ (k : Int) := by omega
  have hkl : (k : Int) < (lx.length : Int) := by omega
  have um : u.mach = m := by simpa [onMach] using hu
  obtain ⟨b1, b2, b3, b4, b5⟩ := OwnL.putS encU_len (show OwnU w2 w.heap.size (.slice (some ⟨gx, 0, none⟩) lx.length cx) lx from HO.out) (k := k) ⟨m, u.st⟩ 0 (.int .i64 m) h2 (by decide) (by unfold encU; rfl)
  obtain ⟨d1, d2, d3, d4, d5⟩ := OwnL.putS encU_len b5 (k := k) (x := ⟨m, u.st⟩) ⟨m, s⟩ 1 (.int .i64 s) (by rw [List.getElem?_set_self hk]) (by decide) (by unfold encU; rfl)
  rw [List.set_set] at d5
  simp only [Nat.add_zero] at b3 b4 b5 d3 d4 d5
  have u0 := TU.out.at 0 rfl
  have u1 := TU.out.at 1 rfl
  have HQ := Lib.hid d5
  have HGX := Lib.hid hg1
  unfold encU at b3 d3
  simp only [List.getElem?_cons_zero, List.getElem?_cons_succ] at b3 d3
  clear h1 h2 h3 hu hob hg1 hg2 hcap b1 b2 b5 d1 d2 d5
  go_wp2_with fail
  have hgr := set_grown2 w2 gx (k * 2) (k * 2 + 1) (.int .i64 m) (.int .i64 s)
  have hq := HQ.out
  clear b3 b4 d3 d4 u0 u1 HQ
  generalize (w2.setCell _ _).setCell _ _ = W4 at hgr hq ⊢
  go_ret
  refine ⟨⟨some ⟨gx, 0, none⟩, cx, lx.set k ⟨m, s⟩⟩, (by show Ending.returned (.slice (some ⟨gx, 0, none⟩) lx.length cx) = Ending.returned (.slice (some ⟨gx, 0, none⟩) (lx.set k ⟨m, s⟩).length cx); rw [List.length_set]), ?_, ?_, grown_trans (gr_grown G.out _) hgr, fun a ha => ?_⟩
  ·rw [← HX.out, HPI.out]
  ·show UnL _ (.slice (some ⟨gx, 0, none⟩) (lx.set k ⟨m, s⟩).length cx) _
   rw [List.length_set]
   exact hq.read
  ·injection ha with ha
   subst ha
   exact .inl rfl
end Go.Proofs.YtchpbaaabnkkkaaGreatDoor

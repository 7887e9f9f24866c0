/-
  placement.Put, Drop.
  placement.Drop; the closure of Put, Put.
  placement.Put; exodusref20.with.
-/
import Derived.Test.YtnlocdijdfclcaaGreatDoorPlC
import Derived.Test.YtnlocdijdfclcaaGreatDoorCatP
namespace Go.Proofs.YtnlocdijdfclcaaGreatDoor
open Go.RowKit Go.Lib Lex
set_option linter.unusedVariables false
set_option linter.unusedSimpArgs false

theorem SlL.full {α : Type} {enc : α → List Value} {sz : Nat} {w : World} {p : Option Addr} {n c : Nat} {l : List α} (he : ∀ x, (enc x).length = sz) (h : SlL w sz enc (.slice p n c) l) {k : Nat} (hk : k ≤ l.length) : SlL w sz enc (.slice p k k) (l.take k) := by
 have hn : l.length = n := by
  obtain ⟨p', c', hv, _⟩ := h.parts
  injection hv with _ h2 _
  exact h2.symm
 obtain ⟨h0, p', c', hv, h1, h2, h3⟩ := h
 injection hv with e1 e2 e3
 subst e1 e3
 have hl : (l.take k).length = k := by rw [List.length_take]; omega
 unfold SlL
 rw [hl]
 refine ⟨by rw [flat_len he, hl], p, k, rfl, Nat.le_refl _, by omega, ?_⟩
 rcases h3 with h3 | ⟨b, o, hp, hc⟩
 ·left; omega
 ·refine .inr ⟨b, o, hp, fun j u hj => hc j u ?_⟩
  have e : l.flatMap enc = (l.take k).flatMap enc ++ (l.drop k).flatMap enc := by rw [← List.flatMap_append, List.take_append_drop]
  rw [e, List.getElem?_append_left (by exact (List.getElem?_eq_some_iff.1 hj).1)]
  exact hj
theorem SlL.rest {α : Type} {enc : α → List Value} {sz : Nat} {w : World} {b o n c : Nat} {l : List α} (he : ∀ x, (enc x).length = sz) (h : SlL w sz enc (.slice (some ⟨b, o, none⟩) n c) l) {k : Nat} (hk : k ≤ l.length) (q : Option Addr) (hq : q = some ⟨b, o + k * sz, none⟩ ∨ c = k) : SlL w sz enc (.slice q (n - k) (c - k)) (l.drop k) := by
 have hn : l.length = n := by
  obtain ⟨p', c', hv, _⟩ := h.parts
  injection hv with _ h2 _
  exact h2.symm
 obtain ⟨h0, p', c', hv, h1, h2, h3⟩ := h
 injection hv with e1 e2 e3
 subst e1 e3
 have hl : (l.drop k).length = n - k := by rw [List.length_drop, hn]
 unfold SlL
 rw [hl]
 refine ⟨by rw [flat_len he, hl], q, c - k, rfl, by omega, by omega, ?_⟩
 rcases hq with hq | hq
 ·rcases h3 with h3 | ⟨b', o', hp, hc⟩
  ·left; omega
  ·injection hp with hp
   injection hp with e1 e2 _
   subst e1 e2
   refine .inr ⟨b, o + k * sz, hq, fun j u hj => ?_⟩
   have := hc (k * sz + j) u (by
    have e : l.flatMap enc = (l.take k).flatMap enc ++ (l.drop k).flatMap enc := by rw [← List.flatMap_append, List.take_append_drop]
    have hlt : (List.flatMap enc (l.take k)).length = k * sz := by rw [flat_len he, List.length_take, Nat.min_eq_left hk]
    rw [e, List.getElem?_append_right (by rw [hlt]; omega), hlt, show k * sz + j - k * sz = j by omega]
    exact hj)
   rw [← Nat.add_assoc] at this
   exact this
 ·left; omega
theorem SlL.restP {α : Type} {enc : α → List Value} {sz : Nat} {w : World} {p : Option Addr} {n c : Nat} {l : List α} (he : ∀ x, (enc x).length = sz) (h : SlL w sz enc (.slice p n c) l) {k : Nat} (hk : k ≤ l.length) : SlL w sz enc (.slice (if c = k then p else Option.map (fun x => x.add (k * sz)) p) (n - k) (c - k)) (l.drop k) := by
 by_cases hc : c = k
 ·rw [if_pos hc]
  have hn : l.length = n := by
   obtain ⟨p', c', hv, _⟩ := h.parts
   injection hv with _ h2 _
   exact h2.symm
  have hcn : n ≤ c := by
   obtain ⟨p', c', hv, h1, _⟩ := h.parts
   injection hv with e1 e2 e3
   omega
  have hnil : l.drop k = [] := List.drop_eq_nil_of_le (by omega)
  rw [hnil, show n - k = 0 by omega, show c - k = 0 by omega]
  exact ⟨by simp, p, 0, rfl, Nat.le_refl _, by omega, .inl rfl⟩
 ·rw [if_neg hc]
  have hp : ∃ b o, p = some ⟨b, o, none⟩ ∨ c = 0 := by
   obtain ⟨h0, p', c', hv, h1, h2, h3⟩ := h
   injection hv with e1 e2 e3
   subst e1 e3
   rcases h3 with h3 | ⟨b, o, hp, _⟩
   ·exact ⟨0, 0, .inr h3⟩
   ·exact ⟨b, o, .inl hp⟩
  obtain ⟨b, o, hp | hp⟩ := hp
  ·subst hp
   exact SlL.rest he h hk _ (.inl (by simp [addr_add0]))
  ·have hn : l.length = n := by
    obtain ⟨p', c', hv, _⟩ := h.parts
    injection hv with _ h2 _
    exact h2.symm
   have hcn : n ≤ c := by
    obtain ⟨p', c', hv, h1, _⟩ := h.parts
    injection hv with e1 e2 e3
    omega
   omega
theorem past_prd (w : World) (b : Nat) (m : Int) (hb : Cells w b #[.int .i64 m]) : PrdB w (.func (.func 55) #[] #[.pointer (some ⟨b, 0, none⟩)]) encU (past m) := by
 refine ⟨_, _, rfl, enters_of Tryz.func55 (by kernel_rfl) rfl, fun w' g x => ?_⟩
 have B := Cells.new w' #[.int .i64 x.mach, .int .i64 x.st] 69
 have u0 := B.2.at 0 rfl
 have d0 := (hb.grow (g.trans B.1)).at 0 rfl
 have G := Lib.hid B.1
 clear B g hb
 show Calls _ _ #[.agg #[.int .i64 x.mach, .int .i64 x.st], .pointer (some ⟨b, 0, none⟩)] _ _
 go_enter Tryz.func55, Tryz.ntmps55
 go_wp2_with fail
 go_ret
 exact ⟨_, rfl, G.out, rfl⟩
theorem drop_in {l : List UnitM} {m : Int} {k : Nat} (h : l.findIdx? (onMach m) = some k) : dropL l m = l.take k ++ l.drop (k + 1) := by unfold dropL; rw [h]
theorem drop_out {l : List UnitM} {m : Int} (h : l.findIdx? (onMach m) = none) : dropL l m = l := by unfold dropL; rw [h]
theorem unit_row {w : World} {base : Nat} {x : RowU} (h : OwnU w base (rowV x) x.us) {k : Nat} {u : UnitM} (hu : x.us[k]? = some u) : ∃ g, x.p = some ⟨g, 0, none⟩ ∧ (rowV x).ownBlock = some g ∧ base ≤ g ∧ g < w.heap.size ∧ x.us.length ≤ x.c := by
 have hk := (List.getElem?_eq_some_iff.1 hu).1
 obtain ⟨g, cap, hv, h1, h2, h3, _⟩ := OwnL.made h (by omega)
 unfold rowV at hv ⊢
 injection hv with e1 e2 e3
 rw [e1]
 exact ⟨g, rfl, rfl, h1, h2, by omega⟩
set_option maxRecDepth 100000 in
set_option maxHeartbeats 1600000 in
theorem drop_clo (w : World) (b : Nat) (X : List UnitM) (m : Int) (hb : Cells w b #[.int .i64 (firstAt (onMach m) X)]) (hX : X.length ≤ 1000) :
  ChangeFn w (.func (.func 56) #[] #[.pointer (some ⟨b, 0, none⟩)]) X (dropL X m) := by
 refine ⟨_, _, rfl, enters_of Tryz.func56 (by kernel_rfl) rfl, fun w1 x g hx ho => ?_⟩
 have TB := Lib.hid (hb.grow g)
 have HO := Lib.hid ho
 have HX := Lib.hid hx
 clear hb g ho hx
 show Calls _ _ #[rowV x, .pointer (some ⟨b, 0, none⟩)] _ _
 rcases firstAt_cases (onMach m) X with ⟨h1, _, h2⟩ | ⟨k, u, h1, h2, _, _, h3⟩
 ·have HD := Lib.hid (drop_out h2)
  rw [h1] at TB
  have d0 := TB.out.at 0 rfl
  clear h1 h2
  unfold rowV
  go_enter Tryz.func56, Tryz.ntmps56
  go_wp2_with fail
  try rw [Exit.noGoto_ret]
  go_ret
  exact ⟨x, rfl, by rw [HD.out]; exact HX.out, HO.out.read, ⟨rfl, rfl, rfl, Nat.le_refl _, fun _ _ _ => rfl⟩, fun a ha => .inl (own_ptr HO.out a ha).2.symm⟩
 ·have HD := Lib.hid (drop_in h3)
  rw [h1] at TB
  rw [← HX.out] at h2
  obtain ⟨g, hp, hob, hg1, hg2, hcap⟩ := unit_row HO.out h2
  have hk := (List.getElem?_eq_some_iff.1 h2).1
  obtain ⟨px, cx, lx⟩ := x
  dsimp only at hp hk hcap HX
  subst hp
  have d0 : ∀ w', Gr w1 w' → w'.cell? ⟨b, 0, none⟩ = some (.int .i64 (k : Int)) := TB.out.c 0 rfl
  have HOB := Lib.hid hob
  clear h1 h2 h3 hob
  unfold rowV
  go_enter Tryz.func56, Tryz.ntmps56
  have d1 := d0 _ (Gr.refl _)
  have hlx : lx.length ≤ 1000 := by rw [HX.out]; exact hX
  have hk1 : IntKind.i64.wrap ((k : Int) + 1) = (k : Int) + 1 := by rw [IntKind.wrap_i64]; omega
  have hkl : (k : Int) + 1 ≤ (lx.length : Int) := by omega
  have hkc : (k : Int) ≤ (cx : Int) := by omega
  have hkc2 : k ≤ cx := by omega
  have hlc : (lx.length : Int) ≤ (cx : Int) := by omega
  go_wp2_with fail
  clear d1
  have g0 : Gr w1 w1.drew := (Gr.refl _).drew
  refine wp_region_fast [(0, true), (1, true), (2, true), (3, true), (4, true), (5, true), (6, true), (7, true), (8, false), (9, true)] (by kernel_rfl) (by kernel_rfl) rfl (by kernel_rfl) (fun _ _ d _ _ h => by cases d <;> exact h) ?_
  repeat (refine wpE_readB (v := ?_) g0 rfl rfl (fun w' hg => ?_) (fun K hK => ?_); rotate_left; (go_simp; rfl); go_simp; refine hK _ _ ?_; clear hK K)
  obtain ⟨q, hq⟩ : ∃ q, (if cx = k + 1 then some (⟨g, 0, none⟩ : Addr) else some ⟨g, (k + 1) * 2, none⟩) = q := ⟨_, rfl⟩
  rw [hq]
  have hqq : q = some ⟨g, 0 + (k + 1) * 2, none⟩ ∨ cx = k + 1 := by
   rw [← hq, Nat.zero_add]
   split
   ·next h => exact .inr h
   ·exact .inl rfl
  have hon : UnL w1.drew (.slice (some ⟨g, 0, none⟩) lx.length cx) lx := SlL.grow (show UnL w1 _ lx from HO.out.read) g0
  have s1 := SlL.full encU_len hon (k := k) (by omega)
  have s2 := SlL.rest encU_len hon (k := k + 1) (by omega) q hqq
  have hl1 : (lx.take k).length = k := by rw [List.length_take]; omega
  have hl2 : (lx.drop (k + 1)).length = lx.length - (k + 1) := List.length_drop
  refine wpE_do rfl rfl (fun K hK => ?_)
  by_cases hem : k + 1 = lx.length
  ·refine wp_append0 _ _ 64 69 _ 16 rfl Tryz.underlying64 unit_info (some ⟨g, 0, none⟩) q k k (cx - (k + 1)) rfl (Nat.le_refl _) (.inl (fun h => by cases h)) (by show Value.slice q (lx.length - (k + 1)) (cx - (k + 1)) = _; rw [← hem, Nat.sub_self]) ?_
   refine ⟨fun _ => Gr.refl _, hK _ _ ?_⟩
   clear hK K
   repeat (refine wpE_readB (v := ?_) g0 rfl rfl (fun w' hg => ?_) (fun K hK => ?_); rotate_left; (go_simp; rfl); go_simp; refine hK _ _ ?_; clear hK K)
   refine wpE_nil ?_
   clear d0
   go_wp2_with fail
   go_ret
   refine ⟨⟨some ⟨g, 0, none⟩, k, lx.take k⟩, (by show Ending.returned (.slice (some ⟨g, 0, none⟩) k k) = Ending.returned (.slice (some ⟨g, 0, none⟩) (lx.take k).length k); rw [hl1]), ?_, ?_, gr_grown g0 _, fun a ha => ?_⟩
   ·rw [HD.out, ← HX.out, List.drop_eq_nil_of_le (by omega), List.append_nil]
   ·show UnL _ (.slice (some ⟨g, 0, none⟩) (lx.take k).length k) _
    rw [hl1]
    exact s1
   ·injection ha with ha
    subst ha
    exact .inl rfl
  ·refine wp_appendS _ _ 64 69 _ 16 rfl Tryz.underlying64 unit_info rfl (by decide) encU_len (some ⟨g, 0, none⟩) (.slice q (lx.length - (k + 1)) (cx - (k + 1))) (lx.take k) (lx.drop (k + 1)) (by rw [hl1]; rfl) (by rw [hl1]; exact s1) rfl s2 (by omega) (by rw [hl1, hl2]; omega) (by rw [hl1, hl2]; omega) ?_
   intro v' w3 ho3 g3 hb3
   refine ⟨fun _ => g3, hK _ _ ?_⟩
   clear hK K
   obtain ⟨p', c', hv', _, _⟩ := ho3.read.parts
   obtain ⟨N, hN⟩ : ∃ N, (lx.take k ++ lx.drop (k + 1)).length = N := ⟨_, rfl⟩
   have HN := Lib.hid hN
   rw [hN] at hv'
   subst hv'
   clear hN
   have g1 := Gr.refl w3
   repeat (refine wpE_readB (v := ?_) g1 rfl rfl (fun w' hg => ?_) (fun K hK => ?_); rotate_left; (go_simp; rfl); go_simp; refine hK _ _ ?_; clear hK K)
   refine wpE_nil ?_
   clear d0
   go_wp2_with fail
   go_ret
   have ho4 : OwnU w3 w1.drew.heap.size (rowV ⟨p', c', lx.take k ++ lx.drop (k + 1)⟩) (lx.take k ++ lx.drop (k + 1)) := by
    show OwnU w3 _ (.slice p' (lx.take k ++ lx.drop (k + 1)).length c') _
    rw [HN.out]
    exact ho3
   refine ⟨⟨p', c', lx.take k ++ lx.drop (k + 1)⟩, (by show Ending.returned (.slice p' N c') = Ending.returned (.slice p' (lx.take k ++ lx.drop (k + 1)).length c'); rw [HN.out]), ?_, ho4.read, gr_grown (g0.trans g3) _, fun a ha => .inr ?_⟩
   ·rw [HD.out, ← HX.out]
   ·exact (own_ptr (x := ⟨p', c', lx.take k ++ lx.drop (k + 1)⟩) ho4 a ha).1
end Go.Proofs.YtnlocdijdfclcaaGreatDoor
namespace Go.Proofs.YtnlocdijdfclcaaGreatDoor
open Go.RowKit Go.Lib Lex
set_option linter.unusedVariables false
set_option linter.unusedSimpArgs false

theorem dropL_len (l : List UnitM) (m : Int) : (dropL l m).length ≤ l.length := by
 unfold dropL
 split
 ·simp only [List.length_append, List.length_take, List.length_drop]; omega
 ·exact Nat.le_refl _
theorem putL_len (l : List UnitM) (u : UnitM) : (putL l u).length ≤ l.length + 1 := by
 unfold putL
 split
 ·simp
 ·simp only [List.length_append, List.length_take, List.length_cons, List.length_drop]; omega
def PlcRes (w : World) (X : Plc) (r : Value) (w' : World) : Prop := ∃ p' c' L', r = plcV p' c' L' ∧ PlcNew w' w.heap.size p' c' L' ∧ usOf L' = X
set_option maxRecDepth 100000 in
set_option maxHeartbeats 800000 in
theorem plc_Drop (w : World) (p : Option Addr) (c : Nat) (L : List RowU) (item m : Int) (hp : PlcAt w p c L) (hf : FewK (usOf L)) :
  Calls Tryz.prog 28 #[plcV p c L, .int .i64 item, .int .i64 m] w (Ret w fun r w' => PlcRes w (dropP (usOf L) item m) r w') := by
 have HF := Lib.hid hf
 have B0 := Cells.new w #[.slice p L.length c] 32
 have B1 := Cells.new (w.alloc (.cells #[.slice p L.length c] 32)) #[.slice none 0 0] 32
 simp only [World.size_alloc] at B1
 have p0 := (B0.2.grow B1.1).at 0 rfl
 have H := Lib.hid (show _ ∧ _ ∧ _ from ⟨B0.1.trans B1.1, B0.2.grow B1.1, B1.2⟩)
 have HP := Lib.hid (hp.grow (B0.1.trans B1.1))
 clear B0 B1 hp hf
 unfold plcV
 go_enter Tryz.func28, Tryz.ntmps28
 go_wp2_with fail
 clear p0
 generalize hb6 : w.heap.size + 1 = b6 at H ⊢
 generalize hbp : w.heap.size = bp at H ⊢
 generalize (w.alloc _).alloc _ = W at H HP ⊢
 have G := Lib.hid H.out.1
 have TP := Lib.hid H.out.2.1
 have T6 := Lib.hid H.out.2.2
 have HB6 := Lib.hid (show ¬ b6 < w.heap.size by omega)
 clear hb6 hbp H
 refine (plc_find W p c L item m HP.out HF.out).mono ?_
 rintro _ w1 ⟨_, rfl, g1, rfl⟩
 have G := Lib.hid (G.out.trans g1)
 have TP := Lib.hid (TP.out.grow g1)
 have T6 := Lib.hid (T6.out.grow g1)
 have HP := Lib.hid (HP.out.grow g1)
 clear g1
 unfold idxP
 have B := Cells.new w1 #[.int .i64 (firstAt (onMach m) (unitsP (usOf L) item))] 3
 have p0 := (TP.out.grow B.1).at 0 rfl
 have g1 := B.1
 have T7 := Lib.hid B.2
 clear B
 have G := Lib.hid (G.out.trans g1)
 have TP := Lib.hid (TP.out.grow g1)
 have T6 := Lib.hid (T6.out.grow g1)
 have HP := Lib.hid (HP.out.grow g1)
 clear g1
 go_wp2_with fail
 clear p0
 generalize w1.heap.size = b7 at T7 ⊢
 generalize w1.alloc _ = W2 at T7 TP T6 HP G ⊢
 have HS2 := Lib.hid G.out.size
 refine (plc_with W2 p c L item _ (dropL (unitsP (usOf L) item) m) HP.out HF.out (drop_clo W2 b7 _ m T7.out (unitsP_few HF.out item)) (Nat.le_trans (dropL_len _ _) (unitsP_few HF.out item))).mono ?_
 rintro _ w3 ⟨_, rfl, g3, p', c', L', rfl, hn, hu⟩
 have HN := Lib.hid hn
 have HU := Lib.hid hu
 have HL6 := Lib.hid T6.out.lt
 have T6 := Lib.hid (T6.out.grow g3)
 have G := Lib.hid (G.out.trans g3)
 have q0 := T6.out.at 0 rfl
 have q1 := Cells.f T6.out 0
 clear hn hu g3
 unfold plcV
 go_wp2_with fail
 clear q0 q1
 have hn := HN.out.other (b := b6) (i := 0) (u := .slice p' L'.length c') HL6.out
 have hT := T6.out.set 0 (.slice p' L'.length c')
 have hG := G.out.set HB6.out (i := 0) (.slice p' L'.length c')
 generalize w3.setCell _ _ = W4 at hn hT hG ⊢
 have y0 := hT.at 0 rfl
 refine bodyPost_ret (by simp [results, Tryz.results28, go_sem, y0]; rfl) rfl ?_
 exact ⟨_, rfl, hG, p', c', L', rfl, hn.mono HS2.out, HU.out⟩
theorem put_in {l : List UnitM} {m s : Int} {k : Nat} (h : l.findIdx? (onMach m) = some k) : putL l ⟨m, s⟩ = l.set k ⟨m, s⟩ := by unfold putL; rw [h]
theorem put_out {l : List UnitM} {m s : Int} {k : Nat} (h : l.findIdx? (onMach m) = none) (hk : spotL l m = k) : putL l ⟨m, s⟩ = l.take k ++ ⟨m, s⟩ :: l.drop k := by
 unfold putL
 rw [h]
 dsimp only
 rw [hk]
theorem set_grown2 (w : World) (g i j : Nat) (u v : Value) : w.grownBy ((w.setCell ⟨g, i, none⟩ u).setCell ⟨g, j, none⟩ v) (some g) := grown_trans grown_set grown_set
set_option maxRecDepth 100000 in
set_option maxHeartbeats 1600000 in
theorem put_clo (w : World) (bp bi bm bu : Nat) (p : Option Addr) (c : Nat) (L : List RowU) (item m s : Int) (hp : PlcAt w p c L) (hf : FewK (usOf L)) (h1 : Cells w bp #[.slice p L.length c]) (h2 : Cells w bi #[.int .i64 item]) (h3 : Cells w bm #[.int .i64 m]) (h4 : Cells w bu #[.int .i64 m, .int .i64 s]) :
  ChangeFn w (.func (.func 53) #[] #[.pointer (some ⟨bp, 0, none⟩), .pointer (some ⟨bi, 0, none⟩), .pointer (some ⟨bm, 0, none⟩), .pointer (some ⟨bu, 0, none⟩)]) (unitsP (usOf L) item) (putL (unitsP (usOf L) item) ⟨m, s⟩) := by
 refine ⟨_, _, rfl, enters_of Tryz.func53 (by kernel_rfl) rfl, fun w1 x g hx ho => ?_⟩
 have HF := Lib.hid hf
 have HP := Lib.hid (hp.grow g)
 have TP := Lib.hid (h1.grow g)
 have TI := Lib.hid (h2.grow g)
 have TM := Lib.hid (h3.grow g)
 have TU := Lib.hid (h4.grow g)
 have HO := Lib.hid ho
 have HX := Lib.hid hx
 have hlx : x.us.length ≤ 1000 := by rw [hx]; exact unitsP_few hf item
 clear hp hf h1 h2 h3 h4 ho hx g
 show Calls _ _ #[rowV x, .pointer (some ⟨bp, 0, none⟩), .pointer (some ⟨bi, 0, none⟩), .pointer (some ⟨bm, 0, none⟩), .pointer (some ⟨bu, 0, none⟩)] _ _
 have p0 := TP.out.at 0 rfl
 have i0 := TI.out.at 0 rfl
 have m0 := TM.out.at 0 rfl
 obtain ⟨px, cx, lx⟩ := x
 dsimp only at hlx
 unfold rowV
 go_enter Tryz.func53, Tryz.ntmps53
 go_wp2_with fail
 clear p0 i0 m0
 refine (plc_find w1 p c L item m HP.out HF.out).mono ?_
 rintro _ w2 ⟨_, rfl, g2, rfl⟩
 have G := Lib.hid (Gr.refl w1)
 have G := Lib.hid (G.out.trans g2)
 have TP := Lib.hid (TP.out.grow g2)
 have TI := Lib.hid (TI.out.grow g2)
 have TM := Lib.hid (TM.out.grow g2)
 have TU := Lib.hid (TU.out.grow g2)
 have HO := Lib.hid (HO.out.grow g2)
 clear g2
 unfold idxP
 have HX := Lib.hid (show lx = unitsP (usOf L) item from HX.out)
 rw [← HX.out]
 rcases firstAt_cases (onMach m) lx with ⟨h1, _, h2⟩ | ⟨k, u, h1, h2, hu, _, h3⟩
 ·rw [h1]
  have H2 := Lib.hid h2
  clear h1 h2
  go_wp2_with fail
  refine (unit_indexB w2 px lx.length cx lx _ (past m) (show UnL w2 _ lx from HO.out.read) rfl (by omega) (past_prd w2 bm m TM.out)).mono ?_
  rintro _ w3 ⟨_, rfl, g3, rfl⟩
  have G := Lib.hid (G.out.trans g3)
  have TP := Lib.hid (TP.out.grow g3)
  have TI := Lib.hid (TI.out.grow g3)
  have TM := Lib.hid (TM.out.grow g3)
  have TU := Lib.hid (TU.out.grow g3)
  have HO := Lib.hid (HO.out.grow g3)
  clear g3
  have hcap : lx.length ≤ cx := by
   obtain ⟨_, _, hv, hc, _⟩ := HO.out.read.parts
   change Value.slice px lx.length cx = _ at hv
   injection hv with e1 e2 e3
   change lx.length ≤ _ at hc
   omega
  have hcI : (lx.length : Int) ≤ (cx : Int) := by omega
  rcases firstAt_cases (past m) lx with ⟨h1, _, h3⟩ | ⟨k, v, h1, h2, _, _, h3⟩
  ·rw [h1]
   have HPO := Lib.hid (put_out (s := s) H2.out (show spotL lx m = lx.length by unfold spotL; rw [h3]))
   clear h1 h3
   go_wp2_with fail
   have u0 := TU.out.c 0 rfl
   have u1 := TU.out.c 1 rfl
   have g0 : Gr w3 w3.drew := (Gr.refl _).drew
   refine wp_region_loose w3 (.read 0 (.read 1 (.read 2 (.read 3 (.read 4 (.read 7 (.read 8 (.read 9 (.one 5 (.one 6 (.one 10 (.read 11 .stop)))))))))))) (Gr.refl _) (by kernel_rfl) (by kernel_rfl) rfl (by kernel_rfl) (fun _ _ d _ _ h => by cases d <;> exact h) ?_
   repeat (refine wpL_read (v := ?_) rfl rfl (fun w' hg => ?_) (fun K hK => ?_); rotate_left; (go_simp; rfl); go_simp; refine hK _ _ ?_; clear hK K)
   have hon : UnL w3 (.slice px lx.length cx) lx := HO.out.read
   have s1 := SlL.full encU_len hon (k := lx.length) (by omega)
   have s2 := SlL.restP encU_len hon (k := lx.length) (by omega)
   obtain ⟨q, hq⟩ : ∃ q, (if cx = lx.length then px else Option.map (fun x => x.add (lx.length * 2)) px) = q := ⟨_, rfl⟩
   rw [hq] at s2 ⊢
   clear hq
   rw [Nat.sub_self] at s2
   have hl1 : (lx.take lx.length).length = lx.length := by rw [List.length_take]; omega
   have hl2 : (lx.drop lx.length).length = lx.length - lx.length := List.length_drop
   generalize w3.drew = W5 at g0 ⊢
   refine wpL_val (v := ?_) (w' := ?_) rfl rfl ?_ ?_ (fun K hK => ?_)
   rotate_left 2
   ·go_simp; first | rfl | (constructor <;> rfl)
   ·exact g0.alloc _
   go_simp
   refine hK _ _ ?_
   clear hK K
   have B := SlL.new W5 69 encU_len [(⟨m, s⟩ : UnitM)] #[.int .i64 m, .int .i64 s] 1 rfl rfl (by decide)
   have su := B.2
   have g6 := g0.trans B.1
   clear B
   generalize W5.heap.size = b8 at su ⊢
   generalize W5.alloc _ = W6 at su g6 ⊢
   refine wpL_do rfl rfl (fun K hK => ?_)
   refine wp_appendS _ _ 64 69 _ 16 rfl Tryz.underlying64 unit_info rfl (by decide) encU_len px _ (lx.take lx.length) [(⟨m, s⟩ : UnitM)] (by rw [hl1]; rfl) (by rw [hl1]; exact SlL.grow s1 g6) rfl su (by simp) (by rw [hl1]; simp; omega) (by rw [hl1]; simp; omega) ?_
   intro v7 W7 ho7 g7 _
   refine ⟨g6.trans g7, hK _ _ ?_⟩
   clear hK K
   refine wpL_do rfl rfl (fun K hK => ?_)
   refine wp_appendL _ _ 64 69 _ 16 rfl Tryz.underlying64 unit_info rfl (by decide) encU_len encU_one W6.heap.size v7 _ (lx.take lx.length ++ [(⟨m, s⟩ : UnitM)]) (lx.drop lx.length) rfl ho7 rfl (SlL.grow s2 (g6.trans g7)) (by rw [List.length_append, hl1, hl2]; simp; omega) (by rw [List.length_append, hl1, hl2]; simp; omega) g7.size ?_
   intro v8 W8 ho8 k8
   have g68 := ho7.gr g7 k8
   refine ⟨g6.trans g68, hK _ _ ?_⟩
   clear hK K
   have ho8 := ho8
   rw [List.append_assoc, List.singleton_append, ← HPO.out] at ho8
   obtain ⟨p8, c8, hv8, _, _⟩ := ho8.read.parts
   obtain ⟨N, hN⟩ : ∃ N, (putL lx ⟨m, s⟩).length = N := ⟨_, rfl⟩
   have HN := Lib.hid hN
   rw [hN] at hv8
   subst hv8
   clear hN
   repeat (refine wpL_read (v := ?_) rfl rfl (fun w' hg => ?_) (fun K hK => ?_); rotate_left; (go_simp; rfl); go_simp; refine hK _ _ ?_; clear hK K)
   refine wpL_stop ?_
   have G8 := Lib.hid (G.out.trans (g6.trans g68))
   have hle : w1.heap.size ≤ W6.heap.size := (G.out.trans g6).size
   clear u0 u1 g0 g6 g7 g68 su s1 s2 k8 ho7 hon hl1 hl2
   go_wp2_with fail
   go_ret
   have ho9 : OwnU W8 W6.heap.size (rowV ⟨p8, c8, putL lx ⟨m, s⟩⟩) (putL lx ⟨m, s⟩) := by
    show OwnU W8 _ (.slice p8 (putL lx ⟨m, s⟩).length c8) _
    rw [HN.out]
    exact ho8
   refine ⟨⟨p8, c8, putL lx ⟨m, s⟩⟩, (by show Ending.returned (.slice p8 N c8) = Ending.returned (.slice p8 (putL lx ⟨m, s⟩).length c8); rw [HN.out]), ?_, ho9.read, gr_grown G8.out _, fun a ha => .inr ?_⟩
   ·rw [← HX.out]
   ·exact Nat.le_trans hle (own_ptr (x := ⟨p8, c8, putL lx ⟨m, s⟩⟩) ho9 a ha).1
  ·rw [h1]
   have HPO := Lib.hid (put_out (s := s) H2.out (show spotL lx m = k by unfold spotL; rw [h3]))
   have hk := (List.getElem?_eq_some_iff.1 h2).1
   have hk0 : (0 : Int) ≤ (k : Int) := by omega
   have hkl : (k : Int) ≤ (lx.length : Int) := by omega
   have hkl2 : (k : Int) ≤ (cx : Int) := by omega
   clear h1 h2 h3
   go_wp2_with fail
   have u0 := TU.out.c 0 rfl
   have u1 := TU.out.c 1 rfl
   have g0 : Gr w3 w3.drew := (Gr.refl _).drew
   refine wp_region_loose w3 (.read 0 (.read 1 (.read 2 (.read 3 (.read 4 (.read 7 (.read 8 (.read 9 (.one 5 (.one 6 (.one 10 (.read 11 .stop)))))))))))) (Gr.refl _) (by kernel_rfl) (by kernel_rfl) rfl (by kernel_rfl) (fun _ _ d _ _ h => by cases d <;> exact h) ?_
   repeat (refine wpL_read (v := ?_) rfl rfl (fun w' hg => ?_) (fun K hK => ?_); rotate_left; (go_simp; rfl); go_simp; refine hK _ _ ?_; clear hK K)
   have hon : UnL w3 (.slice px lx.length cx) lx := HO.out.read
   have s1 := SlL.full encU_len hon (k := k) (by omega)
   have s2 := SlL.restP encU_len hon (k := k) (by omega)
   obtain ⟨q, hq⟩ : ∃ q, (if cx = k then px else Option.map (fun x => x.add (k * 2)) px) = q := ⟨_, rfl⟩
   rw [hq] at s2 ⊢
   clear hq
   skip
   have hl1 : (lx.take k).length = k := by rw [List.length_take]; omega
   have hl2 : (lx.drop k).length = lx.length - k := List.length_drop
   generalize w3.drew = W5 at g0 ⊢
   refine wpL_val (v := ?_) (w' := ?_) rfl rfl ?_ ?_ (fun K hK => ?_)
   rotate_left 2
   ·go_simp; first | rfl | (constructor <;> rfl)
   ·exact g0.alloc _
   go_simp
   refine hK _ _ ?_
   clear hK K
   have B := SlL.new W5 69 encU_len [(⟨m, s⟩ : UnitM)] #[.int .i64 m, .int .i64 s] 1 rfl rfl (by decide)
   have su := B.2
   have g6 := g0.trans B.1
   clear B
   generalize W5.heap.size = b8 at su ⊢
   generalize W5.alloc _ = W6 at su g6 ⊢
   refine wpL_do rfl rfl (fun K hK => ?_)
   refine wp_appendS _ _ 64 69 _ 16 rfl Tryz.underlying64 unit_info rfl (by decide) encU_len px _ (lx.take k) [(⟨m, s⟩ : UnitM)] (by rw [hl1]; rfl) (by rw [hl1]; exact SlL.grow s1 g6) rfl su (by simp) (by rw [hl1]; simp; omega) (by rw [hl1]; simp; omega) ?_
   intro v7 W7 ho7 g7 _
   refine ⟨g6.trans g7, hK _ _ ?_⟩
   clear hK K
   refine wpL_do rfl rfl (fun K hK => ?_)
   refine wp_appendL _ _ 64 69 _ 16 rfl Tryz.underlying64 unit_info rfl (by decide) encU_len encU_one W6.heap.size v7 _ (lx.take k ++ [(⟨m, s⟩ : UnitM)]) (lx.drop k) rfl ho7 rfl (SlL.grow s2 (g6.trans g7)) (by rw [List.length_append, hl1, hl2]; simp; omega) (by rw [List.length_append, hl1, hl2]; simp; omega) g7.size ?_
   intro v8 W8 ho8 k8
   have g68 := ho7.gr g7 k8
   refine ⟨g6.trans g68, hK _ _ ?_⟩
   clear hK K
   have ho8 := ho8
   rw [List.append_assoc, List.singleton_append, ← HPO.out] at ho8
   obtain ⟨p8, c8, hv8, _, _⟩ := ho8.read.parts
   obtain ⟨N, hN⟩ : ∃ N, (putL lx ⟨m, s⟩).length = N := ⟨_, rfl⟩
   have HN := Lib.hid hN
   rw [hN] at hv8
   subst hv8
   clear hN
   repeat (refine wpL_read (v := ?_) rfl rfl (fun w' hg => ?_) (fun K hK => ?_); rotate_left; (go_simp; rfl); go_simp; refine hK _ _ ?_; clear hK K)
   refine wpL_stop ?_
   have G8 := Lib.hid (G.out.trans (g6.trans g68))
   have hle : w1.heap.size ≤ W6.heap.size := (G.out.trans g6).size
   clear u0 u1 g0 g6 g7 g68 su s1 s2 k8 ho7 hon hl1 hl2
   go_wp2_with fail
   go_ret
   have ho9 : OwnU W8 W6.heap.size (rowV ⟨p8, c8, putL lx ⟨m, s⟩⟩) (putL lx ⟨m, s⟩) := by
    show OwnU W8 _ (.slice p8 (putL lx ⟨m, s⟩).length c8) _
    rw [HN.out]
    exact ho8
   refine ⟨⟨p8, c8, putL lx ⟨m, s⟩⟩, (by show Ending.returned (.slice p8 N c8) = Ending.returned (.slice p8 (putL lx ⟨m, s⟩).length c8); rw [HN.out]), ?_, ho9.read, gr_grown G8.out _, fun a ha => .inr ?_⟩
   ·rw [← HX.out]
   ·exact Nat.le_trans hle (own_ptr (x := ⟨p8, c8, putL lx ⟨m, s⟩⟩) ho9 a ha).1
 ·rw [h1]
  have HPI := Lib.hid (put_in (s := s) h3)
  have hk := (List.getElem?_eq_some_iff.1 h2).1
  obtain ⟨gx, hpx, hob, hg1, hg2, hcap⟩ := unit_row HO.out h2
  dsimp only at hpx hcap
  subst hpx
  have hk0 : (0 : Int) ≤ (k : Int) := by omega
  have hkl : (k : Int) < (lx.length : Int) := by omega
  have um : u.mach = m := by simpa [onMach] using hu
  obtain ⟨b1, b2, b3, b4, b5⟩ := OwnL.putS encU_len (show OwnU w2 w.heap.size (.slice (some ⟨gx, 0, none⟩) lx.length cx) lx from HO.out) (k := k) ⟨m, u.st⟩ 0 (.int .i64 m) h2 (by decide) (by unfold encU; rfl)
  obtain ⟨d1, d2, d3, d4, d5⟩ := OwnL.putS encU_len b5 (k := k) (x := ⟨m, u.st⟩) ⟨m, s⟩ 1 (.int .i64 s) (by rw [List.getElem?_set_self hk]) (by decide) (by unfold encU; rfl)
  rw [List.set_set] at d5
  simp only [Nat.add_zero] at b3 b4 b5 d3 d4 d5
  have u0 := TU.out.at 0 rfl
  have u1 := TU.out.at 1 rfl
  have HQ := Lib.hid d5
  have HGX := Lib.hid hg1
  unfold encU at b3 d3
  simp only [List.getElem?_cons_zero, List.getElem?_cons_succ] at b3 d3
  clear h1 h2 h3 hu hob hg1 hg2 hcap b1 b2 b5 d1 d2 d5
  go_wp2_with fail
  have hgr := set_grown2 w2 gx (k * 2) (k * 2 + 1) (.int .i64 m) (.int .i64 s)
  have hq := HQ.out
  clear b3 b4 d3 d4 u0 u1 HQ
  generalize (w2.setCell _ _).setCell _ _ = W4 at hgr hq ⊢
  go_ret
  refine ⟨⟨some ⟨gx, 0, none⟩, cx, lx.set k ⟨m, s⟩⟩, (by show Ending.returned (.slice (some ⟨gx, 0, none⟩) lx.length cx) = Ending.returned (.slice (some ⟨gx, 0, none⟩) (lx.set k ⟨m, s⟩).length cx); rw [List.length_set]), ?_, ?_, grown_trans (gr_grown G.out _) hgr, fun a ha => ?_⟩
  ·rw [← HX.out, HPI.out]
  ·show UnL _ (.slice (some ⟨gx, 0, none⟩) (lx.set k ⟨m, s⟩).length cx) _
   rw [List.length_set]
   exact hq.read
  ·injection ha with ha
   subst ha
   exact .inl rfl
end Go.Proofs.YtnlocdijdfclcaaGreatDoor
namespace Go.Proofs.YtnlocdijdfclcaaGreatDoor
open Go.RowKit Go.Lib Lex
set_option linter.unusedVariables false
set_option linter.unusedSimpArgs false

section append
variable {α : Type} {enc : α → List Value} {sz : Nat} {P : Program} {o : Oper} {a : Act} {K : Act → World → Prop} {Q : Exit → Act → World → Prop} {w : World}
theorem wp_appendB (s x : Operand) (t e : TypeId) (z : Value) (bytes : Nat) (ho : o.op = .call { callee := .builtin .append, args := #[s, x], argTypes := #[t, t] })
  (ht : P.underlying t = some (.slice e)) (hinfo : (P.info? e).map (fun i => (i.zero, i.size, i.bytes)) = some (some z, sz, bytes)) (hzs : z.cells.size = sz) (hsz : 0 < sz) (he : ∀ x, (enc x).length = sz) (h1 : ∀ x, ∀ u ∈ enc x, u.oneCell' = true)
  (base : Nat) (v vx : Value) (l m : List α) (hs : a.eval s = v) (hown : OwnL w base e sz enc v l) (hx : a.eval x = vx) (hm : SlL w sz enc vx m)
  (hlen : (l.length + m.length) * bytes ≤ 140737488355328) (hlen2 : l.length + m.length ≤ 1000000000000) (hbase : base ≤ w.heap.size) (hpos : 0 < m.length)
  (h : ∀ v' w', OwnL w' base e sz enc v' (l ++ m) → w.grownBy w' v.ownBlock → (v'.ownBlock = v.ownBlock ∨ v'.ownBlock = some w.heap.size) → K (a.put o.dst v') w') : Oper.wp P o a w K Q := by
 obtain ⟨v', w', hr, h2, h3, h4⟩ := append_block (ty := o.type) t e z bytes ht hinfo hzs hsz he h1 base v vx l m hown hm hlen hlen2 hbase hpos
 unfold Oper.wp execOp
 simp only [ho, resolve, invoke, builtin, Sem.run_bind, Sem.run_pure, Result.andThen_ok, List.map_toArray, List.map_cons, List.map_nil, hs, hx, hr]
 exact h v' w' h2 h3 h4
end append
set_option maxRecDepth 100000 in
set_option maxHeartbeats 800000 in
theorem plc_Put (w : World) (p : Option Addr) (c : Nat) (L : List RowU) (item m s : Int) (hp : PlcAt w p c L) (hf : FewK (usOf L)) (hf2 : ∀ l ∈ usOf L, l.length ≤ 900) :
  Calls Tryz.prog 27 #[plcV p c L, .int .i64 item, .int .i64 m, .int .i64 s] w (Ret w fun r w' => PlcRes w (putP (usOf L) item m s) r w') := by
 have HF := Lib.hid hf
 have hul : (unitsP (usOf L) item).length ≤ 900 := by
  unfold unitsP
  split
  ·rw [List.getD_eq_getElem?_getD]
   cases hx : (usOf L)[(item - 1).toNat]? with
   | none => simp
   | some l => simpa using hf2 l (List.mem_of_getElem? hx)
  ·simp
 have HUL := Lib.hid hul
 have B0 := Cells.new w #[.slice p L.length c] 32
 have B1 := Cells.new (w.alloc (.cells #[.slice p L.length c] 32)) #[.int .i64 item] 3
 have B2 := Cells.new ((w.alloc (.cells #[.slice p L.length c] 32)).alloc (.cells #[.int .i64 item] 3)) #[.int .i64 m] 3
 have B3 := Cells.new (((w.alloc (.cells #[.slice p L.length c] 32)).alloc (.cells #[.int .i64 item] 3)).alloc (.cells #[.int .i64 m] 3)) #[.slice none 0 0] 32
 have B4 := Cells.new ((((w.alloc (.cells #[.slice p L.length c] 32)).alloc (.cells #[.int .i64 item] 3)).alloc (.cells #[.int .i64 m] 3)).alloc (.cells #[.slice none 0 0] 32)) #[.int .i64 m, .int .i64 s] 69
 simp only [World.size_alloc] at B1 B2 B3 B4
 have m0 := (B2.2.grow B3.1).at 0 rfl
 have p0 := (B0.2.grow (((B1.1.trans B2.1).trans B3.1).trans B4.1)).at 0 rfl
 have i0 := (B1.2.grow ((B2.1.trans B3.1).trans B4.1)).at 0 rfl
 have H := Lib.hid (show _ ∧ _ ∧ _ ∧ _ ∧ _ ∧ _ from ⟨B0.1.trans (((B1.1.trans B2.1).trans B3.1).trans B4.1), B0.2.grow (((B1.1.trans B2.1).trans B3.1).trans B4.1), B1.2.grow ((B2.1.trans B3.1).trans B4.1), B2.2.grow (B3.1.trans B4.1), B3.2.grow B4.1, B4.2⟩)
 have HP := Lib.hid (hp.grow (B0.1.trans (((B1.1.trans B2.1).trans B3.1).trans B4.1)))
 clear B0 B1 B2 B3 B4 hp hf hf2 hul
 unfold plcV
 go_enter Tryz.func27, Tryz.ntmps27
 go_wp2_with fail
 clear p0 i0 m0
 generalize hbu : w.heap.size + 1 + 1 + 1 + 1 = bu at H ⊢
 generalize hb6 : w.heap.size + 1 + 1 + 1 = b6 at H ⊢
 generalize hbm : w.heap.size + 1 + 1 = bm at H ⊢
 generalize hbi : w.heap.size + 1 = bi at H ⊢
 generalize hbp : w.heap.size = bp at H ⊢
 generalize ((((w.alloc _).alloc _).alloc _).alloc _).alloc _ = W at H HP ⊢
 have G := Lib.hid H.out.1
 have HS2 := Lib.hid H.out.1.size
 have T6 := Lib.hid H.out.2.2.2.2.1
 have HB6 := Lib.hid (show ¬ b6 < w.heap.size by omega)
 clear hbu hb6 hbm hbi hbp
 refine (plc_with W p c L item _ (putL (unitsP (usOf L) item) ⟨m, s⟩) HP.out HF.out (put_clo W bp bi bm bu p c L item m s HP.out HF.out H.out.2.1 H.out.2.2.1 H.out.2.2.2.1 H.out.2.2.2.2.2) (by have := putL_len (unitsP (usOf L) item) ⟨m, s⟩; have := HUL.out; omega)).mono ?_
 rintro _ w3 ⟨_, rfl, g3, p', c', L', rfl, hn, hu⟩
 have HN := Lib.hid hn
 have HU := Lib.hid hu
 have HL6 := Lib.hid T6.out.lt
 have T6 := Lib.hid (T6.out.grow g3)
 have G := Lib.hid (G.out.trans g3)
 have q0 := T6.out.at 0 rfl
 have q1 := Cells.f T6.out 0
 clear hn hu g3 H
 unfold plcV
 go_wp2_with fail
 clear q0 q1
 have hn := HN.out.other (b := b6) (i := 0) (u := .slice p' L'.length c') HL6.out
 have hT := T6.out.set 0 (.slice p' L'.length c')
 have hG := G.out.set HB6.out (i := 0) (.slice p' L'.length c')
 generalize w3.setCell _ _ = W4 at hn hT hG ⊢
 have y0 := hT.at 0 rfl
 refine bodyPost_ret (by simp [results, Tryz.results27, go_sem, y0]; rfl) rfl ?_
 exact ⟨_, rfl, hG, p', c', L', rfl, hn.mono HS2.out, HU.out⟩
def RowAp (xp : Option Addr) (base : Nat) (v : Value) (y : RowU) : Prop := y.us = [] ∨ ∀ a, y.p = some a → v.ownBlock ≠ some a.block ∧ (xp = some a ∨ base ≤ a.block)
theorem row_lt {w : World} {y : RowU} (h : RowOn w y) (hne : y.us ≠ []) : ∀ a, y.p = some a → a.block < w.heap.size := fun a ha => by
 obtain ⟨b, o, u, hp, hu, hc⟩ := unit_at (n := y.us.length) (show UnL w (.slice y.p y.us.length y.c) y.us from h) rfl (k := 0) (List.length_pos_iff.2 hne)
 rw [hp] at ha
 injection ha with ha
 subst ha
 exact World.block_lt_of_cell? w _ (hc w (Gr.refl _)).1
theorem RowOn.grown {w w' : World} {y : RowU} {r : Option Nat} (h : RowOn w y) (hg : w.grownBy w' r) (ha : y.us = [] ∨ ∀ a, y.p = some a → r ≠ some a.block) : RowOn w' y := by
 by_cases hne : y.us = []
 ·unfold RowOn at *
  obtain ⟨h0, p', c', hv, h1, h2, h3⟩ := h
  injection hv with e1 e2 e3
  subst e1 e3
  rw [hne] at *
  refine ⟨h0, _, _, rfl, h1, h2, ?_⟩
  rcases h3 with h3 | ⟨b, o, hp, hc⟩
  ·exact .inl h3
  ·exact .inr ⟨b, o, hp, fun j u hj => by simp at hj⟩
 ·have hlt := row_lt h hne
  have hap := ha.resolve_left hne
  unfold RowOn at *
  obtain ⟨h0, p', c', hv, h1, h2, h3⟩ := h
  injection hv with e1 e2 e3
  subst e1 e3
  refine ⟨h0, _, _, rfl, h1, h2, ?_⟩
  rcases h3 with h3 | ⟨b, o, hp, hc⟩
  ·exact .inl h3
  ·refine .inr ⟨b, o, hp, fun j u hj => ?_⟩
   have h5 := hc j u hj
   have h6 := hlt _ hp
   have h7 := hap _ hp
   unfold World.cell? at h5 ⊢
   rw [show (⟨b, o + j, none⟩ : Addr).block = b from rfl] at h5 ⊢
   rw [hg.block b h6 (fun e => h7 e.symm)]
   exact h5
def OutI (w : World) (xp : Option Addr) (base bp b6 bo : Nat) (pv : Value) (X : Plc) (w9 : World) : Prop := ∃ v L', Cells w9 bp #[pv] ∧ Cells w9 b6 #[.slice none 0 0] ∧ Cells w9 bo #[v] ∧ OwnR w9 base v L' ∧ (∀ y ∈ L', RowOn w9 y ∧ RowAp xp base v y) ∧ usOf L' = X ∧ Gr w w9 ∧ base ≤ w9.heap.size
theorem OutI.grow {w w9 w' : World} {xp : Option Addr} {base bp b6 bo : Nat} {pv : Value} {X : Plc} (h : OutI w xp base bp b6 bo pv X w9) (g : Gr w9 w') : OutI w xp base bp b6 bo pv X w' := by
 obtain ⟨v, L', h1, h2, h3, h4, h5, h6, h7, h8⟩ := h
 exact ⟨v, L', h1.grow g, h2.grow g, h3.grow g, h4.grow g, fun y hy => ⟨(h5 y hy).1.grow g, (h5 y hy).2⟩, h6, h7.trans g, Nat.le_trans h8 g.size⟩
theorem OutI.push {w w8 w' : World} {xp : Option Addr} (hxp : ∀ a, xp = some a → a.block < w.heap.size) {base bp b6 bo : Nat} {pv v v' : Value} {L' : List RowU} {y : RowU} (hbp : bp < base) (hb6 : b6 < base) (hbo : bo < base) (hwo : ¬ bo < w.heap.size) (hnp : bp ≠ bo) (hn6 : b6 ≠ bo) (hwb : w.heap.size ≤ base)
  (h1 : Cells w8 bp #[pv]) (h2 : Cells w8 b6 #[.slice none 0 0]) (h3 : Cells w8 bo #[v]) (h4 : OwnR w8 base v L') (h5 : ∀ z ∈ L', RowOn w8 z ∧ RowAp xp base v z) (h7 : Gr w w8) (h8 : base ≤ w8.heap.size)
  (hy : RowOn w8 y) (hya : RowAp xp base v y) (ho : OwnR w' base v' (L' ++ [y])) (hg : w8.grownBy w' v.ownBlock) (hb : v'.ownBlock = v.ownBlock ∨ v'.ownBlock = some w8.heap.size) :
  OutI w xp base bp b6 bo pv (usOf L' ++ [y.us]) (w'.setCell ⟨bo, 0, none⟩ v') := by
 have hne : ∀ b, b < base → some b ≠ v.ownBlock := fun b hb e => by have := (h4.lt b e.symm).1; omega
 have hne' : ∀ b, b < base → v'.ownBlock ≠ some b := fun b hb e => by have := (ho.lt b e).1; omega
 have hu := upd_set w' bo 0 v'
 have ap : ∀ z, RowOn w8 z → RowAp xp base v z → RowAp xp base v' z := fun z hz ha => by
  by_cases hzn : z.us = []
  ·exact .inl hzn
  ·right
   intro a hp
   refine ⟨?_, (ha.resolve_left hzn a hp).2⟩
   rcases hb with hb | hb
   ·rw [hb]; exact (ha.resolve_left hzn a hp).1
   ·rw [hb]
    intro e
    injection e with e
    have := row_lt hz hzn a hp
    omega
 refine ⟨v', L' ++ [y], ((h1.grown hg (hne bp hbp)).upd hu hnp), ((h2.grown hg (hne b6 hb6)).upd hu hn6), ?_, OwnL.other ho (hne' bo hbo), fun z hz => ?_, ?_, ?_, ?_⟩
 ·have := (h3.grown hg (hne bo hbo)).set 0 v'
  simpa using this
 ·have hz2 : RowOn w8 z ∧ RowAp xp base v z := by
   rcases List.mem_append.1 hz with hz | hz
   ·exact h5 z hz
   ·obtain rfl := List.mem_singleton.1 hz
    exact ⟨hy, hya⟩
  refine ⟨?_, ap z hz2.1 hz2.2⟩
  have h9 := hz2.1.grown hg (by
   rcases hz2.2 with h | h
   ·exact .inl h
   ·exact .inr fun a ha => (h a ha).1)
  rcases hz2.2 with hzn | hzn
  ·exact h9.off hu (.inl hzn)
  ·exact h9.off hu (.inr fun a ha e => by
    rcases (hzn a ha).2 with h | h
    ·have := hxp a h; omega
    ·omega)
 ·unfold usOf; simp
 ·exact (OwnL.gr (a := w) (h4.mono hwb) h7 hg).set hwo v'
 ·have := hg.size
  simp [World.setCell]
  omega
theorem withP_at {X : Plc} {item : Int} {g : List UnitM} {k : Nat} {l : List UnitM} (h : X[k]? = some l) : (withP X item g)[k]? = some (if (k : Int) + 1 = item then g else l) := by
 have hk := (List.getElem?_eq_some_iff.1 h).1
 unfold withP
 by_cases hin : 1 ≤ item ∧ item ≤ (X.length : Int)
 ·rw [if_pos hin, List.getElem?_set]
  by_cases e : (k : Int) + 1 = item
  ·rw [if_pos e, if_pos (by omega), if_pos (by omega)]
  ·rw [if_neg e, if_neg (by omega), h]
 ·rw [if_neg hin, if_neg (by omega), h]
theorem withP_len (X : Plc) (item : Int) (g : List UnitM) : (withP X item g).length = X.length := by
 unfold withP
 split <;> simp
set_option maxRecDepth 100000 in
set_option maxHeartbeats 1600000 in
theorem ref_with (w : World) (p : Option Addr) (c : Nat) (L : List RowU) (item : Int) (x : RowU) (hp : PlcAt w p c L) (hf : FewK (usOf L)) (hx : RowOn w x) (hxl : x.us.length ≤ 1000) (hi : -9223372036854775808 ≤ item ∧ item ≤ 9223372036854775807) :
  Calls Tryz.prog 60 #[plcV p c L, .int .i64 item, rowV x] w (Ret w fun r w' => ∃ p' c' L', r = plcV p' c' L' ∧ PlcAt w' p' c' L' ∧ (∀ a, p' = some a → w.heap.size ≤ a.block) ∧ (∀ z ∈ L', z.us = [] ∨ ∀ a, z.p = some a → x.p = some a ∨ w.heap.size ≤ a.block) ∧ usOf L' = withP (usOf L) item x.us) := by
 have HF := Lib.hid hf
 have hL24 : L.length ≤ 1000 := by rw [← usOf_len]; exact hf.1
 have B0 := Cells.new w #[.slice p L.length c] 32
 have B1 := Cells.new (w.alloc (.cells #[.slice p L.length c] 32)) #[.slice none 0 0] 32
 have B2 := Cells.new ((w.alloc (.cells #[.slice p L.length c] 32)).alloc (.cells #[.slice none 0 0] 32)) #[.slice none 0 0] 32
 simp only [World.size_alloc] at B1 B2
 have H := Lib.hid (show _ ∧ _ ∧ _ ∧ _ from ⟨B0.1.trans (B1.1.trans B2.1), B0.2.grow (B1.1.trans B2.1), B1.2.grow B2.1, B2.2⟩)
 have HP0 := Lib.hid hp
 have HX0 := Lib.hid hx
 have HXL := Lib.hid hxl
 have HXP := Lib.hid (show ∀ a, (if x.us = [] then none else x.p) = some a → a.block < w.heap.size from fun a ha => by
  split at ha
  ·cases ha
  ·next h => exact row_lt hx h a ha)
 clear B0 B1 B2 hp hf hx hxl
 unfold plcV rowV
 go_enter Tryz.func60, Tryz.ntmps60
 go_wp2_with fail
 generalize hbo : w.heap.size + 1 + 1 = bo at H ⊢
 generalize hb6 : w.heap.size + 1 = b6 at H ⊢
 generalize hbp : w.heap.size = bp at H ⊢
 generalize ((w.alloc _).alloc _).alloc _ = W at H ⊢
 have HB := Lib.hid (show bp < W.heap.size ∧ b6 < W.heap.size ∧ bo < W.heap.size ∧ ¬ bo < w.heap.size ∧ ¬ b6 < w.heap.size ∧ bp ≠ bo ∧ b6 ≠ bo ∧ w.heap.size ≤ W.heap.size from by
  have := H.out.2.2.2.lt
  have := H.out.2.1.lt
  have := H.out.2.2.1.lt
  have := H.out.1.size
  refine ⟨by omega, by omega, by omega, by omega, by omega, by omega, by omega, by omega⟩)
 have HO := Lib.hid (show OutI w (if x.us = [] then none else x.p) W.heap.size bp b6 bo (.slice p L.length c) [] W from ⟨.slice none 0 0, [], H.out.2.1, H.out.2.2.1, H.out.2.2.2, OwnL.nil _ _ _, by simp, rfl, H.out.1, Nat.le_refl _⟩)
 clear hbo hb6 hbp H
 go_loopw [8] (fun i w9 => ∃ k : Nat, i = .int .i64 (k : Int) ∧ k ≤ L.length ∧ OutI w (if x.us = [] then none else x.p) W.heap.size bp b6 bo (.slice p L.length c) ((withP (usOf L) item x.us).take k) w9) (fun i _ => L.length - (RowKit.intOf i).toNat)
 case atStart => exact ⟨0, rfl, Nat.zero_le _, by simpa using HO.out⟩
 case round =>
  clear HO
  obtain ⟨k, rfl, hk, v, L', h1, h2, h3, h4, h5, h6, h7, h8⟩ := hrel
  have H1 := Lib.hid h1
  have H2 := Lib.hid h2
  have H3 := Lib.hid h3
  have H4 := Lib.hid h4
  have H5 := Lib.hid h5
  have H6 := Lib.hid h6
  have H7 := Lib.hid h7
  have H8 := Lib.hid h8
  have p0 := h1.at 0 rfl
  have HLL := Lib.hid (show L'.length = k by rw [← usOf_len, h6, List.length_take, withP_len, usOf_len]; omega)
  clear h1 h2 h3 h4 h5 h6 h7 h8
  by_cases hlt : k < L.length
  ·have hlt' : (k : Int) < (L.length : Int) := by omega
   have hk1 : IntKind.i64.wrap ((k : Int) + 1) = (k : Int) + 1 := by rw [IntKind.wrap_i64]; omega
   have o0 := H3.out.at 0 rfl
   obtain ⟨y0, hy0⟩ : ∃ y0, L[k]? = some y0 := ⟨_, List.getElem?_eq_getElem hlt⟩
   have HY0 := Lib.hid hy0
   have HNX := Lib.hid (show (withP (usOf L) item x.us).take (k + 1) = (withP (usOf L) item x.us).take k ++ [if (k : Int) + 1 = item then x.us else y0.us] from by
    rw [List.take_add_one, withP_at (usOf_at hy0)]; rfl)
   clear hy0
   by_cases e : (k : Int) + 1 = item
   ·have hwk : IntKind.i64.wrap (item - 1) = (k : Int) := by rw [← e, IntKind.wrap_i64]; omega
    have E := Lib.hid e
    clear e
    go_wp2_with (at_builtin; refine Hold.hold ?_)
    clear p0 o0
    have B8 := SlL.new wr 64 encRU_len [x] #[.slice x.p x.us.length x.c] 1 rfl rfl (by decide)
    have hz : (wr.alloc (.cells #[.slice x.p x.us.length x.c] 64)).heap.size = wr.heap.size + 1 := World.size_alloc _ _
    generalize hb8 : wr.heap.size = b8 at B8 hz ⊢
    generalize wr.alloc _ = w8 at B8 hz ⊢
    obtain ⟨g8, t8⟩ := B8
    refine Hold.go ?_
    refine wpList_appendB rfl _ _ 30 64 _ 24 rfl Tryz.underlying30 urow_info rfl (by decide) encRU_len encRU_one W.heap.size v _ L' [x] rfl (H4.out.grow g8) rfl t8 (by have := HLL.out; simp; omega) (by have := HLL.out; simp; omega) (Nat.le_trans H8.out g8.size) (by simp) ?_
    intro v' w9 ho9 k9 hblk
    obtain ⟨p9, c9, rfl, _, _⟩ := (OwnL.read ho9).parts
    obtain ⟨c1, c2, c3, c4, c5, c6, c7, c8⟩ := HB.out
    have hout := OutI.push HXP.out (y := x) c1 c2 c3 c4 c6 c7 c8 (H1.out.grow g8) (H2.out.grow g8) (H3.out.grow g8) (H4.out.grow g8) (fun z hz => ⟨(H5.out z hz).1.grow g8, (H5.out z hz).2⟩) (H7.out.trans g8) (Nat.le_trans H8.out g8.size) (HX0.out.grow (H7.out.trans g8)) (by
     by_cases hxn : x.us = []
     ·exact .inl hxn
     ·right
      intro a ha
      have h1 := row_lt HX0.out hxn a ha
      exact ⟨fun e => by have := (H4.out.lt _ e).1; omega, .inl (by rw [if_neg hxn]; exact ha)⟩) ho9 k9 hblk
    have hne3 : some bo ≠ v.ownBlock := fun e => by have := (H4.out.lt bo e.symm).1; omega
    have T9 := (H3.out.grow g8).grown k9 hne3
    have d0 := T9.at 0 rfl
    have f0 := Cells.f T9 0
    have HOUT := Lib.hid hout
    clear hout hb8 T9 hblk hne3 k9 ho9 hz g8 t8 c1 c2 c3 c4 c5 c6 c7 c8
    go_wp2_with fail
    refine ⟨⟨k + 1, by go_num, by omega, ?_⟩, by simp [RowKit.intOf]; omega⟩
    rw [HNX.out, if_pos E.out, ← H6.out]
    have hout := HOUT.out
    rw [show (L' ++ [x]).length = L'.length + 1 by simp] at hout
    exact hout
   ·have hwk : ((k : Int) == IntKind.i64.wrap (item - 1)) = false := by
     rw [IntKind.wrap_i64]
     simp only [beq_eq_false_iff_ne, ne_eq]
     omega
    have hwk2 : ((k : Int) == wrap64 (item - 1)) = false := by
     unfold wrap64
     simp only [beq_eq_false_iff_ne, ne_eq]
     omega
    have E := Lib.hid e
    clear e
    go_wp2_with fail
    have hlen0 := HF.out.2 y0.us (List.mem_of_getElem? (usOf_at HY0.out))
    have HP := Lib.hid (HP0.out.grow H7.out)
    obtain ⟨bq, oq, y0', hpq, hy0', hcq⟩ := row_at HP.out.rows rfl hlt
    obtain rfl : y0 = y0' := Option.some.inj (HY0.out.symm.trans hy0')
    subst hpq
    clear hwk hwk2 hy0' p0 o0
    have g0 : Gr wr wr.drew := (Gr.refl _).drew
    have p0 := H1.out.c 0 rfl
    have o0 := H3.out.c 0 rfl
    refine Stij.wp_region_fast [(0, true), (1, true), (3, true), (4, true), (5, true), (6, true), (7, true), (2, false), (8, false), (9, false), (10, false), (11, true), (12, false)] (by kernel_rfl) (by kernel_rfl) rfl (by kernel_rfl) (fun _ _ d _ _ h => by cases d <;> exact h) ?_
    repeat (refine Stij.wpE_readB (v := ?_) g0 rfl rfl (fun w' hg => ?_) (fun K hK => ?_); rotate_left; (go_simp; rfl); go_simp; refine hK _ _ ?_; clear hK K)
    have HP := Lib.hid (HP.out.grow g0)
    have hy1 : RowOn wr.drew y0 := HP.out.uns y0 (List.mem_of_getElem? HY0.out)
    have hs := (show OutI w (if x.us = [] then none else x.p) W.heap.size bp b6 bo (.slice (some ⟨bq, oq, none⟩) L.length c) (usOf L') wr.drew from (show OutI w (if x.us = [] then none else x.p) W.heap.size bp b6 bo (.slice (some ⟨bq, oq, none⟩) L.length c) (usOf L') wr from ⟨v, L', H1.out, H2.out, H3.out, H4.out, H5.out, rfl, H7.out, H8.out⟩).grow g0)
    have H1 := Lib.hid (H1.out.grow g0)
    have H2 := Lib.hid (H2.out.grow g0)
    have H3 := Lib.hid (H3.out.grow g0)
    have H4 := Lib.hid (H4.out.grow g0)
    have H5 := Lib.hid (fun z hz => And.intro ((H5.out z hz).1.grow g0) (H5.out z hz).2)
    have H7 := Lib.hid (H7.out.trans g0)
    have H8 := Lib.hid (Nat.le_trans H8.out g0.size)
    clear hs p0 o0 g0
    generalize wr.drew = w0 at hy1 H1 H2 H3 H4 H5 H7 H8 ⊢
    refine Stij.wpE_do rfl rfl (fun K hK => ?_)
    go_simp
    have o1 := OwnL.made0 (sz := 2) (enc := encU) w0 w0.heap.size 69 (Nat.le_refl _)
    have g1 : Gr w0 (w0.alloc (.cells #[] 69)) := (Gr.refl _).alloc _
    refine ⟨fun _ => g1, hK _ _ ?_⟩
    clear hK K
    generalize hb1 : w0.heap.size = b1 at o1 ⊢
    generalize w0.alloc _ = w1 at o1 g1 ⊢
    refine Stij.wpE_do rfl rfl (fun K hK => ?_)
    refine wp_appendF _ _ 64 69 _ 16 rfl Tryz.underlying64 unit_info rfl (by decide) encU_len encU_one b1 (some ⟨b1, 0, none⟩) (.slice y0.p y0.us.length y0.c) [] y0.us rfl o1 rfl (SlL.grow (show UnL w0 (.slice y0.p y0.us.length y0.c) y0.us from hy1) g1) (by simp; omega) (by simp; omega) (by rw [← hb1]; exact g1.size) ?_
    intro v2 w2 ho2 g2
    refine ⟨fun _ => g2, hK _ _ ?_⟩
    clear hK K
    have ho2 : OwnU w2 b1 v2 y0.us := ho2
    obtain ⟨p2, c2, rfl, _, _⟩ := ho2.read.parts
    have g12 := g1.trans g2
    refine Stij.wpE_do rfl rfl (fun K hK => ?_)
    go_simp
    have B8 := SlL.new w2 64 encRU_len [(⟨p2, c2, y0.us⟩ : RowU)] #[.slice p2 y0.us.length c2] 1 rfl rfl (by decide)
    have hz : (w2.alloc (.cells #[.slice p2 y0.us.length c2] 64)).heap.size = w2.heap.size + 1 := World.size_alloc _ _
    refine ⟨fun _ => B8.1, hK _ _ ?_⟩
    clear hK K
    generalize hb8 : w2.heap.size = b8 at B8 hz ⊢
    generalize w2.alloc _ = w8 at B8 hz ⊢
    obtain ⟨g8, t8⟩ := B8
    have g08 := g12.trans g8
    refine Stij.wpE_do rfl rfl (fun K hK => ?_)
    refine wp_appendB _ _ 30 64 _ 24 rfl Tryz.underlying30 urow_info rfl (by decide) encRU_len encRU_one W.heap.size v _ L' [(⟨p2, c2, y0.us⟩ : RowU)] rfl (H4.out.grow g08) rfl t8 (by have := HLL.out; simp; omega) (by have := HLL.out; simp; omega) (Nat.le_trans H8.out g08.size) (by simp) ?_
    intro v' w9 ho9 k9 hblk
    refine ⟨fun h => Bool.noConfusion h, hK _ _ ?_⟩
    clear hK K
    obtain ⟨p9, c9, hv9, _, _⟩ := (OwnL.read ho9).parts
    obtain ⟨N, hN⟩ : ∃ N, (L' ++ [(⟨p2, c2, y0.us⟩ : RowU)]).length = N := ⟨_, rfl⟩
    rw [hN] at hv9
    subst hv9
    obtain ⟨c1', c2', c3', c4', c5', c6', c7', c8'⟩ := HB.out
    have hy9 : OwnU w8 b1 (rowV ⟨p2, c2, y0.us⟩) y0.us := ho2.grow g8
    have hout := OutI.push HXP.out (y := ⟨p2, c2, y0.us⟩) c1' c2' c3' c4' c6' c7' c8' (H1.out.grow g08) (H2.out.grow g08) (H3.out.grow g08) (H4.out.grow g08) (fun z hz => ⟨(H5.out z hz).1.grow g08, (H5.out z hz).2⟩) (H7.out.trans g08) (Nat.le_trans H8.out g08.size) hy9.read (.inr fun a ha => by
     obtain ⟨h1, h2⟩ := own_ptr (x := ⟨p2, c2, y0.us⟩) hy9 a ha
     refine ⟨fun e => ?_, .inr ?_⟩
     ·have := (H4.out.lt _ e).2; omega
     ·have := H8.out; omega) ho9 k9 hblk
    have hne3 : some bo ≠ v.ownBlock := fun e => by have := (H4.out.lt bo e.symm).1; omega
    have T9 := (H3.out.grow g08).grown k9 hne3
    have d0 := T9.at 0 rfl
    have f0 := Cells.f T9 0
    have HOUT := Lib.hid hout
    have g9 := Gr.refl w9
    clear hout hb8 T9 hblk hne3 k9 ho9 hz g8 t8 c1' c2' c3' c4' c5' c6' c7' c8' hy9 g08 g12 g2 g1 o1 ho2 hb1 hy1
    repeat (refine Stij.wpE_readB (v := ?_) g9 rfl rfl (fun w' hg => ?_) (fun K hK => ?_); rotate_left; (go_simp; rfl); go_simp; refine hK _ _ ?_; clear hK K)
    refine Stij.wpE_do rfl rfl (fun K hK => ?_)
    go_simp
    refine ⟨fun h => Bool.noConfusion h, hK _ _ ?_⟩
    clear hK K
    refine Stij.wpE_nil ?_
    clear d0 f0 g9
    generalize w9.setCell _ _ = W9 at HOUT ⊢
    go_wp2_with fail
    refine ⟨⟨k + 1, by go_num, by omega, ?_⟩, by simp [RowKit.intOf]; omega⟩
    rw [HNX.out, if_neg E.out, ← H6.out]
    exact HOUT.out
  ·obtain rfl : k = L.length := by omega
   have o0 := H3.out.at 0 rfl
   have q0 := H2.out.at 0 rfl
   have q1 := Cells.f H2.out 0
   obtain ⟨pv, cv, rfl, _, _⟩ := H4.out.read.parts
   go_wp2_with fail
   obtain ⟨c1', c2', c3', c4', c5', c6', c7', c8'⟩ := HB.out
   have hR : RowL (wr.setCell ⟨b6, 0, none⟩ (.slice pv L'.length cv)) (.slice pv L'.length cv) L' := (OwnL.other (i := 0) (u := .slice pv L'.length cv) H4.out (fun e => by have := (H4.out.lt b6 e).1; omega)).read
   have hU : ∀ z ∈ L', RowOn (wr.setCell ⟨b6, 0, none⟩ (.slice pv L'.length cv)) z := fun z hz => by
    rcases (H5.out z hz).2 with h | h
    ·exact (H5.out z hz).1.off (upd_set _ _ _ _) (.inl h)
    ·exact (H5.out z hz).1.off (upd_set _ _ _ _) (.inr fun a ha e => by
      rcases (h a ha).2 with h | h
      ·have := HXP.out a h; omega
      ·omega)
   have hT := H2.out.set 0 (.slice pv L'.length cv)
   have hG := H7.out.set c5' (i := 0) (.slice pv L'.length cv)
   clear q0 q1 o0 p0
   generalize wr.setCell _ _ = W9 at hR hU hT hG ⊢
   have y0 := hT.at 0 rfl
   refine bodyPost_ret (by simp [results, Tryz.results60, go_sem, y0]; rfl) rfl ?_
   have hfin : usOf L' = withP (usOf L) item x.us := by rw [H6.out, List.take_of_length_le (by rw [withP_len, usOf_len]; omega)]
   refine ⟨_, rfl, hG, pv, cv, L', rfl, ⟨hR, hU, by have := HLL.out; omega, fun z hz => ?_⟩, fun a ha => ?_, fun z hz => ?_, hfin⟩
   rotate_left
   ·rcases H4.out.2 with ⟨hv, _⟩ | ⟨g, cap, cur, hv, hg, _⟩
    ·injection hv with e _ _; rw [e] at ha; cases ha
    ·injection hv with e _ _
     rw [e] at ha
     injection ha with ha
     subst ha
     exact Nat.le_trans c8' hg
   ·rcases (H5.out z hz).2 with h | h
    ·exact .inl h
    ·refine .inr fun a ha => ?_
     rcases (h a ha).2 with h | h
     ·split at h
      ·cases h
      ·exact .inl h
     ·exact .inr (Nat.le_trans c8' h)
   have hzm : z.us ∈ withP (usOf L) item x.us := by rw [← hfin]; exact List.mem_map_of_mem hz
   have : z.us.length ≤ 1000 := by
    unfold withP at hzm
    split at hzm
    ·rcases List.mem_or_eq_of_mem_set hzm with h | h
     ·exact HF.out.2 _ h
     ·rw [h]; exact HXL.out
    ·exact HF.out.2 _ hzm
   omega
end Go.Proofs.YtnlocdijdfclcaaGreatDoor

/-
 exodusref20.Drop, Put.
-/
import Derived.Test.YtnlocdijdfclcaaGreatDoorPlF
namespace Go.Proofs.YtnlocdijdfclcaaGreatDoor
open Go.RowKit Go.Lib Lex
set_option linter.unusedVariables false
set_option linter.unusedSimpArgs false

theorem withP_same (X : Plc) (item : Int) : withP X item (unitsP X item) = X := by
 unfold withP unitsP
 split
 ·next h =>
  refine List.ext_getElem? fun i => ?_
  rw [List.getElem?_set]
  split
  ·next e =>
   subst e
   rw [if_pos (by omega), List.getD_eq_getElem?_getD, List.getElem?_eq_getElem (by omega)]
   rfl
  ·rfl
 ·rfl
def NewP (n : Nat) (p : Option Addr) (L : List RowU) : Prop := (∀ a, p = some a → n ≤ a.block) ∧ ∀ z ∈ L, z.us = [] ∨ ∀ a, z.p = some a → n ≤ a.block
theorem newP_of {n m : Nat} {xp p : Option Addr} {L : List RowU} (hp : ∀ a, p = some a → m ≤ a.block) (hz : ∀ z ∈ L, z.us = [] ∨ ∀ a, z.p = some a → xp = some a ∨ m ≤ a.block) (hm : n ≤ m) (hx : ∀ a, xp = some a → n ≤ a.block) : NewP n p L :=
 ⟨fun a ha => Nat.le_trans hm (hp a ha), fun z hz' => (hz z hz').imp id fun h a ha => (h a ha).elim (hx a) (Nat.le_trans hm)⟩
def PlcGotN (w : World) (X : Plc) (r : Value) (w' : World) : Prop := ∃ p' c' L', r = plcV p' c' L' ∧ PlcAt w' p' c' L' ∧ usOf L' = X ∧ NewP w.heap.size p' L'
theorem plc_keep {w : World} {n b i : Nat} {u : Value} {xp p : Option Addr} {c : Nat} {L : List RowU} (h : PlcAt w p c L) (hp : ∀ a, p = some a → n ≤ a.block) (hz : ∀ z ∈ L, z.us = [] ∨ ∀ a, z.p = some a → xp = some a ∨ n ≤ a.block) (hb : b < n) (hxp : ∀ a, xp = some a → a.block ≠ b) : PlcAt (w.setCell ⟨b, i, none⟩ u) p c L :=
 ⟨SlL.updA h.rows (upd_set w b i u) (fun a ha e => by have := hp a ha; omega), fun z hz' => RowOn.off (h.uns z hz') (upd_set w b i u) (by
  rcases hz z hz' with h | h
  ·exact .inl h
  ·refine .inr fun a ha e => ?_
   rcases h a ha with h | h
   ·exact hxp a h e
   ·omega), h.big, h.ubig⟩
set_option maxRecDepth 100000 in
set_option maxHeartbeats 1600000 in
theorem ref_DropN (w : World) (p : Option Addr) (c : Nat) (L : List RowU) (item m : Int) (hp : PlcAt w p c L) (hf : FewK (usOf L)) (hi : -9223372036854775808 ≤ item ∧ item ≤ 9223372036854775807) :
  Calls Tryz.prog 33 #[plcV p c L, .int .i64 item, .int .i64 m] w (Ret w fun r w' => PlcGotN w (dropP (usOf L) item m) r w') := by
 have HF := Lib.hid hf
 have HII := Lib.hid hi
 have B0 := Cells.new w #[.slice p L.length c] 32
 have B1 := Cells.new (w.alloc (.cells #[.slice p L.length c] 32)) #[.slice none 0 0] 32
 simp only [World.size_alloc] at B1
 have p0 := (B0.2.grow B1.1).at 0 rfl
 have H := Lib.hid (show _ ∧ _ ∧ _ from ⟨B0.1.trans B1.1, B0.2.grow B1.1, B1.2⟩)
 have HP := Lib.hid (hp.grow (B0.1.trans B1.1))
 clear B0 B1 hp hf hi
 unfold plcV
 go_enter Tryz.func33, Tryz.ntmps33
 go_wp2_with fail
 clear p0
 generalize hb6 : w.heap.size + 1 = b6 at H ⊢
 generalize hbp : w.heap.size = bp at H ⊢
 generalize (w.alloc _).alloc _ = W at H HP ⊢
 have G := Lib.hid H.out.1
 have TP := Lib.hid H.out.2.1
 have T6 := Lib.hid H.out.2.2
 have HB6 := Lib.hid (show ¬ b6 < w.heap.size by omega)
 have HL6 := Lib.hid H.out.2.2.lt
 have HNE := Lib.hid (show bp ≠ b6 by omega)
 clear hb6 hbp H
 refine (ref_Units W p c L item HP.out).mono ?_
 rintro _ w1 ⟨_, rfl, g1, x, rfl, hx, hon, hxb⟩
 have HX := Lib.hid hx
 have HON := Lib.hid hon
 have hxl : x.us.length ≤ 1000 := by rw [hx]; exact unitsP_few HF.out item
 have HS1 := Lib.hid g1.size
 have G := Lib.hid (G.out.trans g1)
 have TP := Lib.hid (TP.out.grow g1)
 have T6 := Lib.hid (T6.out.grow g1)
 have HP := Lib.hid (HP.out.grow g1)
 clear g1
 clear hx hon hxb
 obtain ⟨px, cx, lx⟩ := x
 unfold rowV
 dsimp only at hxl
 go_wp2_with fail
 refine (ref_index w1 ⟨px, cx, lx⟩ m HON.out (by dsimp only; omega)).mono ?_
 rintro _ w1 ⟨_, rfl, _, rfl, rfl⟩
 have HX := Lib.hid (show lx = unitsP (usOf L) item from HX.out)
 dsimp only
 rcases firstAt_cases (onMach m) lx with ⟨h1, _, h2⟩ | ⟨k, u, h1, h2, hu, _, h3⟩
 ·rw [h1]
  have HD := Lib.hid (show dropP (usOf L) item m = withP (usOf L) 0 [] from by
   unfold dropP
   rw [← HX.out, drop_out h2, HX.out, withP_same, withP_out (by omega)])
  have p0 := TP.out.at 0 rfl
  clear h1 h2
  go_wp2_with fail
  clear p0
  refine (ref_with w1 p c L 0 nilRow HP.out HF.out (nilRow_on _) (by simp [nilRow]) (by decide)).mono ?_
  rintro _ w3 ⟨_, rfl, g3, p', c', L', rfl, hn, hp', hz', hu⟩
  have HN := Lib.hid hn
  have HU := Lib.hid hu
  have H1' := Lib.hid hp'
  have H2' := Lib.hid hz'
  have T6 := Lib.hid (T6.out.grow g3)
  have G := Lib.hid (G.out.trans g3)
  have q0 := T6.out.at 0 rfl
  have q1 := Cells.f T6.out 0
  clear hn hu g3 hp' hz'
  unfold plcV
  go_wp2_with fail
  clear q0 q1
  have hn := plc_keep (b := b6) (i := 0) (u := .slice p' L'.length c') HN.out H1'.out H2'.out (Nat.lt_of_lt_of_le HL6.out HS1.out) (fun a ha => by cases ha)
  have HNP := Lib.hid (newP_of (n := w.heap.size) H1'.out H2'.out (by have := HB6.out; have := HL6.out; have := HS1.out; omega) (fun a ha => by cases ha))
  have hT := T6.out.set 0 (.slice p' L'.length c')
  have hG := G.out.set HB6.out (i := 0) (.slice p' L'.length c')
  generalize w3.setCell _ _ = W4 at hn hT hG ⊢
  have y0 := hT.at 0 rfl
  refine bodyPost_ret (by simp [results, Tryz.results33, go_sem, y0]; rfl) rfl ?_
  exact ⟨_, rfl, hG, p', c', L', rfl, hn, by rw [HU.out, HD.out]; rfl, HNP.out⟩
 ·rw [h1]
  have HD := Lib.hid (drop_in h3)
  have hk := (List.getElem?_eq_some_iff.1 h2).1
  have hk0 : (0 : Int) ≤ (k : Int) := by omega
  have hk1 : IntKind.i64.wrap ((k : Int) + 1) = (k : Int) + 1 := by rw [IntKind.wrap_i64]; omega
  have hkl : (k : Int) + 1 ≤ (lx.length : Int) := by omega
  have hcap : lx.length ≤ cx := by
   obtain ⟨_, _, hv, hc, _⟩ := (show UnL w1 (.slice px lx.length cx) lx from HON.out).parts
   injection hv with e1 e2 e3
   omega
  have hkc : (k : Int) ≤ (cx : Int) := by omega
  have hlc : (lx.length : Int) ≤ (cx : Int) := by omega
  clear h1 h2 h3 hu
  go_wp2_with fail
  have hI0 : Gr w w1.drew ∧ Cells w1.drew bp #[.slice p L.length c] := ⟨G.out.trans (Gr.refl w1).drew, TP.out.grow (Gr.refl w1).drew⟩
  have HI0 := Lib.hid (show ∀ w', Gr w w' ∧ Cells w' bp #[.slice p L.length c] → w'.cell? ⟨bp, 0, none⟩ = some (.slice p L.length c) from fun w' h => h.2.at 0 rfl)
  have p0 := HI0.out
  refine Inv.wp_region_loose (fun w' => Gr w w' ∧ Cells w' bp #[.slice p L.length c]) (.read 0 (.read 1 (.read 3 (.read 4 (.read 5 (.read 7 (.read 8 (.read 9 (.read 10 (.one 2 (.one 6 (.one 11 (.one 12 (.one 13 .stop)))))))))))))) hI0 (by kernel_rfl) (by kernel_rfl) rfl (by kernel_rfl) (fun _ _ d _ _ h => by cases d <;> exact h) ?_
  repeat (refine Inv.wpL_read (v := ?_) rfl rfl (fun w' hg => ?_) (fun K hK => ?_); rotate_left; (go_simp; rfl); go_simp; refine hK _ _ ?_; clear hK K)
  have g0 : Gr w1 w1.drew := (Gr.refl w1).drew
  have hon : UnL w1.drew (.slice px lx.length cx) lx := SlL.grow HON.out g0
  have s1 := SlL.take encU_len hon rfl k (by omega)
  have s2 := SlL.restP encU_len hon (k := k + 1) (by omega)
  obtain ⟨q, hq⟩ : ∃ q, (if cx = k + 1 then px else Option.map (fun x => x.add ((k + 1) * 2)) px) = q := ⟨_, rfl⟩
  rw [hq] at s2 ⊢
  have hl1 : (lx.take k).length = k := by rw [List.length_take]; omega
  have hl2 : (lx.drop (k + 1)).length = lx.length - (k + 1) := List.length_drop
  have GW := Lib.hid hI0.1
  have TW := Lib.hid hI0.2
  have HPW := Lib.hid (HP.out.grow g0)
  have HSW := Lib.hid (show W.heap.size ≤ w1.drew.heap.size from Nat.le_trans HS1.out g0.size)
  have T6W := Lib.hid (T6.out.grow g0)
  clear hq hon hI0 p0
  generalize w1.drew = W0 at s1 s2 GW TW HPW HSW T6W ⊢
  refine Inv.wpL_val (v := ?_) (w' := ?_) rfl rfl ?_ ?_ (fun K hK => ?_)
  rotate_left 2
  ·go_simp; first | rfl | (constructor <;> rfl)
  ·exact ⟨GW.out.alloc _, TW.out.grow ((Gr.refl W0).alloc _)⟩
  go_simp
  refine hK _ _ ?_
  clear hK K
  have o1 := OwnL.made0 (sz := 2) (enc := encU) W0 W0.heap.size 69 (Nat.le_refl _)
  have g1 : Gr W0 (W0.alloc (.cells #[] 69)) := (Gr.refl _).alloc _
  obtain ⟨b1, hb1⟩ : ∃ b, W0.heap.size = b := ⟨_, rfl⟩
  generalize W0.alloc _ = W1 at o1 g1 ⊢
  refine Inv.wpL_do rfl rfl (fun K hK => ?_)
  refine wp_appendL _ _ 64 69 _ 16 rfl Tryz.underlying64 unit_info rfl (by decide) encU_len encU_one W0.heap.size (.slice (some ⟨W0.heap.size, 0, none⟩) 0 0) _ [] (lx.take k) rfl o1 rfl (SlL.grow s1 g1) (by rw [hl1]; simp; omega) (by rw [hl1]; simp; omega) g1.size ?_
  intro v2 W2 ho2 k2
  have g2 := o1.gr g1 k2
  refine ⟨⟨GW.out.trans g2, TW.out.grow g2⟩, hK _ _ ?_⟩
  clear hK K
  rw [List.nil_append] at ho2
  refine Inv.wpL_do rfl rfl (fun K hK => ?_)
  refine wp_appendL _ _ 64 69 _ 16 rfl Tryz.underlying64 unit_info rfl (by decide) encU_len encU_one W0.heap.size v2 _ (lx.take k) (lx.drop (k + 1)) rfl ho2 rfl (SlL.grow s2 g2) (by rw [hl1, hl2]; omega) (by rw [hl1, hl2]; omega) g2.size ?_
  intro v3 W3 ho3 k3
  have g3 := ho2.gr g2 k3
  refine ⟨⟨GW.out.trans g3, TW.out.grow g3⟩, hK _ _ ?_⟩
  clear hK K
  rw [← HD.out] at ho3
  obtain ⟨p3, c3, hv3, _, _⟩ := ho3.read.parts
  obtain ⟨N, hN⟩ : ∃ N, (dropL lx m).length = N := ⟨_, rfl⟩
  have HN3 := Lib.hid hN
  rw [hN] at hv3
  subst hv3
  have HO3 := Lib.hid (show OwnU W3 W0.heap.size (rowV ⟨p3, c3, dropL lx m⟩) (dropL lx m) from by
   show OwnU W3 _ (.slice p3 (dropL lx m).length c3) _
   rw [HN3.out]; exact ho3)
  have hdl := dropL_len lx m
  clear hN s1 s2 o1 g1 k2 ho2 k3 ho3 g2
  refine Inv.wpL_fn (args := ?_) rfl rfl rfl rfl rfl rfl (by kernel_rfl) (by kernel_rfl) ?_ (fun K hK => ?_)
  rotate_left
  ·go_simp; rfl
  rw [show Value.slice p3 N c3 = rowV ⟨p3, c3, dropL lx m⟩ from by unfold rowV; rw [HN3.out]]
  refine (ref_with W3 p c L item ⟨p3, c3, dropL lx m⟩ (HPW.out.grow g3) HF.out HO3.out.read (by dsimp only; omega) HII.out).mono ?_
  rintro _ W4 ⟨_, rfl, g4, p', c', L', rfl, hn, hp', hz', hu⟩
  have g04 := g3.trans g4
  refine ⟨_, rfl, ⟨GW.out.trans g04, TW.out.grow g04⟩, ?_⟩
  unfold plcV
  go_simp
  refine hK _ _ ?_
  clear hK K
  have T64 := T6W.out.grow g04
  have q0 := T64.at 0 rfl
  have q1 := Cells.f T64 0
  have hle : W0.heap.size ≤ W3.heap.size := g3.size
  refine Inv.wpL_do rfl rfl (fun K hK => ?_)
  go_simp
  have hn' := plc_keep (b := b6) (i := 0) (u := .slice p' L'.length c') hn hp' hz' (by have := HL6.out; have := HSW.out; omega) (fun a ha e => by
   have := (own_ptr (x := ⟨p3, c3, dropL lx m⟩) HO3.out a ha).1
   have := HL6.out
   have := HSW.out
   omega)
  have HNP := Lib.hid (newP_of (n := w.heap.size) hp' hz' (by have := HB6.out; have := HL6.out; have := HSW.out; omega) (fun a ha => by
   have := (own_ptr (x := ⟨p3, c3, dropL lx m⟩) HO3.out a ha).1
   have := HL6.out
   have := HSW.out
   have := HB6.out
   omega))
  have hT := T64.set 0 (.slice p' L'.length c')
  have hG := (GW.out.trans g04).set HB6.out (i := 0) (.slice p' L'.length c')
  have hTP := (TW.out.grow g04).upd (upd_set W4 b6 0 (.slice p' L'.length c')) HNE.out
  refine ⟨⟨hG, hTP⟩, hK _ _ ?_⟩
  clear hK K q0 q1 hn hTP
  generalize W4.setCell _ _ = W5 at hn' hT hG ⊢
  refine Inv.wpL_stop ?_
  go_wp2_with fail
  have y0 := hT.at 0 rfl
  refine bodyPost_ret (by simp [results, Tryz.results33, go_sem, y0]; rfl) rfl ?_
  exact ⟨_, rfl, hG, p', c', L', rfl, hn', by rw [hu, HX.out]; rfl, HNP.out⟩
theorem putl_state {l : List UnitM} {k : Nat} {u : UnitM} {m s : Int} (h : l[k]? = some u) (hu : u.mach = m) (hk : l.findIdx? (onMach m) = some k) : putL l ⟨m, s⟩ = l.set k ⟨u.mach, s⟩ := by rw [put_in hk, hu]
set_option maxRecDepth 100000 in
set_option maxHeartbeats 1600000 in
theorem ref_PutN (w : World) (p : Option Addr) (c : Nat) (L : List RowU) (item m s : Int) (hp : PlcAt w p c L) (hf : FewK (usOf L)) (hf2 : ∀ l ∈ usOf L, l.length ≤ 900) (hi : -9223372036854775808 ≤ item ∧ item ≤ 9223372036854775807) :
  Calls Tryz.prog 32 #[plcV p c L, .int .i64 item, .int .i64 m, .int .i64 s] w (Ret w fun r w' => PlcGotN w (putP (usOf L) item m s) r w') := by
 have HF := Lib.hid hf
 have HII := Lib.hid hi
 have hul : (unitsP (usOf L) item).length ≤ 900 := by
  unfold unitsP
  split
  ·rw [List.getD_eq_getElem?_getD]
   cases hx : (usOf L)[(item - 1).toNat]? with
   | none => simp
   | some l => simpa using hf2 l (List.mem_of_getElem? hx)
  ·simp
 have HUL := Lib.hid hul
 have B0 := Cells.new w #[.slice p L.length c] 32
 have B1 := Cells.new (w.alloc (.cells #[.slice p L.length c] 32)) #[.slice none 0 0] 32
 have B2 := OwnL.made0 (sz := 2) (enc := encU) ((w.alloc (.cells #[.slice p L.length c] 32)).alloc (.cells #[.slice none 0 0] 32)) ((w.alloc (.cells #[.slice p L.length c] 32)).alloc (.cells #[.slice none 0 0] 32)).heap.size 69 (Nat.le_refl _)
 have g2 : Gr ((w.alloc (.cells #[.slice p L.length c] 32)).alloc (.cells #[.slice none 0 0] 32)) (((w.alloc (.cells #[.slice p L.length c] 32)).alloc (.cells #[.slice none 0 0] 32)).alloc (.cells #[] 69)) := (Gr.refl _).alloc _
 simp only [World.size_alloc] at B1 B2
 have p0 := (B0.2.grow (B1.1.trans g2)).at 0 rfl
 have H := Lib.hid (show _ ∧ _ ∧ _ ∧ _ from ⟨B0.1.trans (B1.1.trans g2), B0.2.grow (B1.1.trans g2), B1.2.grow g2, B2⟩)
 have HP := Lib.hid (hp.grow (B0.1.trans (B1.1.trans g2)))
 have HP0 := Lib.hid hp
 clear B0 B1 B2 g2 hp hf hf2 hi hul
 unfold plcV
 go_enter Tryz.func32, Tryz.ntmps32
 go_wp2_with fail
 clear p0
 generalize hb7 : w.heap.size + 1 + 1 = b7 at H ⊢
 generalize hb6 : w.heap.size + 1 = b6 at H ⊢
 generalize hbp : w.heap.size = bp at H ⊢
 generalize ((w.alloc _).alloc _).alloc _ = W at H HP ⊢
 have G := Lib.hid H.out.1
 have TP := Lib.hid H.out.2.1
 have T6 := Lib.hid H.out.2.2.1
 have HO := Lib.hid H.out.2.2.2
 have HB6 := Lib.hid (show ¬ b6 < w.heap.size by omega)
 have HL6 := Lib.hid (show b6 < b7 by omega)
 have HNE := Lib.hid (show bp ≠ b6 by omega)
 have HB7 := Lib.hid (show w.heap.size ≤ b7 by omega)
 have HPB7 := Lib.hid (show bp < b7 by omega)
 have HL7 := Lib.hid ((show OwnU W b7 _ _ from H.out.2.2.2).lt b7 rfl).2
 clear hb7 hb6 hbp H
 refine (ref_Units W p c L item HP.out).mono ?_
 rintro _ w1 ⟨_, rfl, g1, x, rfl, hx, hon, hxb⟩
 have HX := Lib.hid hx
 have hxl : x.us.length ≤ 900 := by rw [hx]; exact HUL.out
 have G := Lib.hid (G.out.trans g1)
 have TP := Lib.hid (TP.out.grow g1)
 have T6 := Lib.hid (T6.out.grow g1)
 have HP := Lib.hid (HP.out.grow g1)
 have HO := Lib.hid (HO.out.grow g1)
 clear g1
 obtain ⟨px, cx, lx⟩ := x
 dsimp only at hxl
 have HX := Lib.hid (show lx = unitsP (usOf L) item from hx)
 clear hx hxb
 unfold rowV
 go_wp2_with (at_builtin; refine Hold.hold ?_)
 refine Hold.go ?_
 refine wpList_plain rfl (fun K hK => ?_)
 refine wp_appendL _ _ 64 69 _ 16 rfl Tryz.underlying64 unit_info rfl (by decide) encU_len encU_one b7 (.slice (some ⟨b7, 0, none⟩) 0 0) (.slice px lx.length cx) [] lx rfl HO.out rfl (show UnL w1 _ lx from hon) (by simp; omega) (by simp; omega) (Nat.le_of_lt (HO.out.lt b7 rfl).2) ?_
 intro v9 w2 ho9 k9
 have HO9 := Lib.hid (show OwnU w2 b7 v9 lx from ho9)
 have hne : ∀ b, b < b7 → some b ≠ (Value.slice (some ⟨b7, 0, none⟩) 0 0).ownBlock := fun b hb e => by
  rw [show (Value.slice (some ⟨b7, 0, none⟩) 0 0).ownBlock = some b7 from rfl] at e
  injection e with e; omega
 have T6 := Lib.hid (T6.out.grown k9 (hne b6 HL6.out))
 have TP := Lib.hid (TP.out.grown k9 (hne bp HPB7.out))
 have G := Lib.hid (OwnL.gr (a := w) (HO.out.mono HB7.out) G.out k9)
 have HL9 := Lib.hid (Nat.le_trans (Nat.le_of_lt (HO.out.lt b7 rfl).2) k9.size)
 obtain ⟨p9, c9, hv9, hc9, _⟩ := HO9.out.read.parts
 subst hv9
 clear hne ho9 k9 hon HO HP
 refine hK _ _ ?_
 clear hK K
 go_wp2_with fail
 refine (ref_index w2 ⟨p9, c9, lx⟩ m HO9.out.read (by dsimp only; omega)).mono ?_
 rintro _ w2 ⟨_, rfl, _, rfl, rfl⟩
 dsimp only
 rcases firstAt_cases (onMach m) lx with ⟨h1, _, h2⟩ | ⟨k, u, h1, h2, hu, _, h3⟩
 ·rw [h1]
  have HNF := Lib.hid h2
  clear h1 h2
  have hcI : (lx.length : Int) ≤ (c9 : Int) := by omega
  go_wp2_with fail
  go_loopw [11] (fun i w9 => ∃ j : Nat, i = .int .i64 (j : Int) ∧ j ≤ lx.length ∧ (∀ (i : Nat) (x : UnitM), i < j → lx[i]? = some x → past m x = false) ∧ w9 = w2) (fun i _ => lx.length - (RowKit.intOf i).toNat)
  case atStart => exact ⟨0, rfl, Nat.zero_le _, fun j x hj => by omega, rfl⟩
  case round =>
   obtain ⟨j, rfl, hj, hq, rfl⟩ := hrel
   have HQ := Lib.hid hq
   clear hq
   by_cases hlt : j < lx.length
   ·have hlt' : (j : Int) < (lx.length : Int) := by omega
    obtain ⟨b, o, y, rfl, hy, hc⟩ := unit_at (show UnL wr (.slice p9 lx.length c9) lx from HO9.out.read) rfl hlt
    have HY := Lib.hid hy
    obtain ⟨c0, c1⟩ := hc _ (Gr.refl _)
    clear hy hc
    by_cases hpm : m < y.mach
    ·have HPO := Lib.hid (put_out (s := s) HNF.out (show spotL lx m = j by
      have h1 := firstAt_some (p := past m) HY.out (by simpa [past] using hpm) HQ.out
      rcases firstAt_cases (past m) lx with ⟨h2, _⟩ | ⟨k, _, h2, _, _, _, h3⟩
      ·omega
      ·unfold spotL; rw [h3]; dsimp only; omega))
     have hd1 : decide (y.mach ≤ m) = false := by simp; omega
     go_wp2_with fail
     have g0 : Gr wr wr.drew := (Gr.refl wr).drew
     have hI0 : Gr w wr.drew ∧ Cells wr.drew bp #[.slice p L.length c] := ⟨G.out.trans g0, TP.out.grow g0⟩
     have HI0 := Lib.hid (show ∀ w', Gr w w' ∧ Cells w' bp #[.slice p L.length c] → w'.cell? ⟨bp, 0, none⟩ = some (.slice p L.length c) from fun w' h => h.2.at 0 rfl)
     have p0 := HI0.out
     have hkc : ((j : Nat) : Int) ≤ (c9 : Int) := by omega
     have hk0 : (0 : Int) ≤ ((j : Nat) : Int) := by omega
     refine Inv.wp_region_loose (fun w' => Gr w w' ∧ Cells w' bp #[.slice p L.length c]) (.read 0 (.read 1 (.read 3 (.read 4 (.read 5 (.read 7 (.read 8 (.read 9 (.read 12 (.read 13 (.read 14 (.two 2 (.two 6 (.one 10 (.one 11 (.one 15 (.one 16 (.one 17 .stop))))) 10 (.one 6 (.one 11 (.one 15 (.one 16 (.one 17 .stop)))))) 10 (.one 2 (.one 6 (.one 11 (.one 15 (.one 16 (.one 17 .stop)))))))))))))))))) hI0 (by kernel_rfl) (by kernel_rfl) rfl (by kernel_rfl) (fun _ _ d _ _ h => by cases d <;> exact h) ?_
     repeat (refine Inv.wpL_read (v := ?_) rfl rfl (fun w' hg => ?_) (fun K hK => ?_); rotate_left; (go_simp; rfl); go_simp; refine hK _ _ ?_; clear hK K)
     have hon9 : UnL wr.drew (.slice (some ⟨b, o, none⟩) lx.length c9) lx := SlL.grow HO9.out.read g0
     have s1 := SlL.take encU_len hon9 rfl j (by omega)
     have s2 := SlL.restP encU_len hon9 (k := j) (by omega)
     simp only [Option.map_some, addr_add0] at s2
     obtain ⟨q, hq⟩ : ∃ q : Option Addr, (if c9 = j then ((some ⟨b, o, none⟩) : Option Addr) else some ⟨b, o + j * 2, none⟩) = q := ⟨_, rfl⟩
     rw [hq] at s2 ⊢
     skip
     have hl1 : (lx.take j).length = j := by rw [List.length_take]; omega
     have hl2 : (lx.drop j).length = lx.length - j := List.length_drop
     have GW := Lib.hid hI0.1
     have TW := Lib.hid hI0.2
     have HPW := Lib.hid (HP0.out.grow hI0.1)
     have HSW := Lib.hid (show b7 ≤ wr.drew.heap.size from Nat.le_trans HL9.out g0.size)
     have T6W := Lib.hid (T6.out.grow g0)
     clear hq hon9 hI0 p0 g0
     generalize wr.drew = W0 at s1 s2 GW TW HPW HSW T6W ⊢
     refine Inv.wpL_two ?_ ?_
     ·refine Inv.wpL_val (v := ?_) (w' := ?_) rfl rfl ?_ ?_ (fun K hK => ?_)
      rotate_left 2
      ·go_simp; first | rfl | (constructor <;> rfl)
      ·exact ⟨GW.out.alloc _, TW.out.grow ((Gr.refl W0).alloc _)⟩
      go_simp
      refine hK _ _ ?_
      clear hK K
      have o1 := OwnL.made0 (sz := 2) (enc := encU) W0 W0.heap.size 69 (Nat.le_refl _)
      have g1 : Gr W0 (W0.alloc (.cells #[] 69)) := (Gr.refl _).alloc _
      obtain ⟨b1, hb1⟩ : ∃ b, W0.heap.size = b := ⟨_, rfl⟩
      generalize hW1 : W0.alloc _ = W1 at o1 g1 ⊢
      clear hW1
      rw [show (Value.slice (some ⟨W0.heap.size, 0, none⟩) 0 0) = .slice (some ⟨b1, 0, none⟩) 0 0 by rw [hb1]] at o1
      rw [hb1]
      refine Inv.wpL_two ?_ ?_
      ·refine Inv.wpL_do rfl rfl (fun K hK => ?_)
       refine wp_appendF _ _ 64 69 _ 16 rfl Tryz.underlying64 unit_info rfl (by decide) encU_len encU_one W0.heap.size (some ⟨b1, 0, none⟩) _ [] (lx.take j) rfl o1 rfl (SlL.grow s1 g1) (by simp only [List.length_nil, hl1]; omega) (by simp only [List.length_nil, hl1]; omega) g1.size ?_
       intro v6 W6 ho6 g16
       have g6 := g1.trans g16
       refine ⟨⟨GW.out.trans g6, TW.out.grow g6⟩, hK _ _ ?_⟩
       clear hK K
       refine Inv.wpL_val (v := ?_) (w' := ?_) rfl rfl ?_ ?_ (fun K hK => ?_)
       rotate_left 2
       ·go_simp; first | rfl | (constructor <;> rfl)
       ·exact ⟨GW.out.trans ((g6).alloc _), TW.out.grow ((g6).alloc _)⟩
       go_simp
       refine hK _ _ ?_
       clear hK K
       have BU := SlL.new W6 69 encU_len [(⟨m, s⟩ : UnitM)] #[.int .i64 m, .int .i64 s] 1 rfl rfl (by decide)
       have su := BU.2
       have ho6 := ho6.grow BU.1
       have g6 := g6.trans BU.1
       clear BU o1 g1
       generalize W6.heap.size = b8 at su ⊢
       generalize W6.alloc _ = W6 at su ho6 g6 ⊢
       rw [List.nil_append] at ho6
       refine Inv.wpL_do rfl rfl (fun K hK => ?_)
       refine wp_appendL _ _ 64 69 _ 16 rfl Tryz.underlying64 unit_info rfl (by decide) encU_len encU_one W0.heap.size v6 _ (lx.take j) ([(⟨m, s⟩ : UnitM)]) rfl ho6 rfl (su) (by simp only [List.length_append, List.length_nil, hl1, hl2, List.length_singleton]; omega) (by simp only [List.length_append, List.length_nil, hl1, hl2, List.length_singleton]; omega) (g6).size ?_
       intro v11 W11 ho11 k11
       have g11 := (ho6).gr (g6) k11
       refine ⟨⟨GW.out.trans g11, TW.out.grow g11⟩, hK _ _ ?_⟩
       clear hK K
       refine Inv.wpL_do rfl rfl (fun K hK => ?_)
       refine wp_appendL _ _ 64 69 _ 16 rfl Tryz.underlying64 unit_info rfl (by decide) encU_len encU_one W0.heap.size v11 _ (lx.take j ++ [(⟨m, s⟩ : UnitM)]) (lx.drop j) rfl ho11 rfl (SlL.grow s2 g11) (by simp only [List.length_append, List.length_nil, hl1, hl2, List.length_singleton]; omega) (by simp only [List.length_append, List.length_nil, hl1, hl2, List.length_singleton]; omega) (g11).size ?_
       intro v15 W15 ho15 k15
       have g15 := (ho11).gr (g11) k15
       refine ⟨⟨GW.out.trans g15, TW.out.grow g15⟩, hK _ _ ?_⟩
       clear hK K
       rw [List.append_assoc, List.singleton_append, ← HPO.out] at ho15
       obtain ⟨p3, c3, hv3, _, _⟩ := ho15.read.parts
       obtain ⟨N, hN⟩ : ∃ N, (putL lx ⟨m, s⟩).length = N := ⟨_, rfl⟩
       have HN3 := Lib.hid hN
       rw [hN] at hv3
       subst hv3
       have HO3 := Lib.hid (show OwnU W15 W0.heap.size (rowV ⟨p3, c3, putL lx ⟨m, s⟩⟩) (putL lx ⟨m, s⟩) from by
        show OwnU W15 _ (.slice p3 (putL lx ⟨m, s⟩).length c3) _
        rw [HN3.out]; exact ho15)
       have hdl := putL_len lx ⟨m, s⟩
       clear hN s1 s2 ho6 ho11 ho15 k15 k11 su
       refine Inv.wpL_fn (args := ?_) rfl rfl rfl rfl rfl rfl (by kernel_rfl) (by kernel_rfl) ?_ (fun K hK => ?_)
       rotate_left
       ·go_simp; rfl
       rw [show Value.slice p3 N c3 = rowV ⟨p3, c3, putL lx ⟨m, s⟩⟩ from by unfold rowV; rw [HN3.out]]
       refine (ref_with W15 p c L item ⟨p3, c3, putL lx ⟨m, s⟩⟩ (HPW.out.grow g15) HF.out HO3.out.read (by dsimp only; omega) HII.out).mono ?_
       rintro _ W4 ⟨_, rfl, g4, p', c', L', rfl, hn, hp', hz', hu⟩
       have g04 := g15.trans g4
       refine ⟨_, rfl, ⟨GW.out.trans g04, TW.out.grow g04⟩, ?_⟩
       unfold plcV
       go_simp
       refine hK _ _ ?_
       clear hK K
       have T64 := T6W.out.grow g04
       have q0 := T64.at 0 rfl
       have q1 := Cells.f T64 0
       have hle : W0.heap.size ≤ W15.heap.size := g15.size
       refine Inv.wpL_do rfl rfl (fun K hK => ?_)
       go_simp
       have hn' := plc_keep (b := b6) (i := 0) (u := .slice p' L'.length c') hn hp' hz' (by have := HL6.out; have := HSW.out; omega) (fun a ha e => by
        have := (own_ptr (x := ⟨p3, c3, putL lx ⟨m, s⟩⟩) HO3.out a ha).1
        have := HL6.out
        have := HSW.out
        omega)
       have HNP := Lib.hid (newP_of (n := w.heap.size) hp' hz' (by have := HB6.out; have := HL6.out; have := HSW.out; omega) (fun a ha => by
        have := (own_ptr (x := ⟨p3, c3, putL lx ⟨m, s⟩⟩) HO3.out a ha).1
        have := HL6.out
        have := HSW.out
        have := HB6.out
        omega))
       have hT := T64.set 0 (.slice p' L'.length c')
       have hG := (GW.out.trans g04).set HB6.out (i := 0) (.slice p' L'.length c')
       have hTP := (TW.out.grow g04).upd (upd_set W4 b6 0 (.slice p' L'.length c')) HNE.out
       refine ⟨⟨hG, hTP⟩, hK _ _ ?_⟩
       clear hK K q0 q1 hn hTP
       generalize W4.setCell _ _ = W5 at hn' hT hG ⊢
       refine Inv.wpL_stop ?_
       go_wp2_with fail
       have y0 := hT.at 0 rfl
       refine bodyPost_ret (by simp [results, Tryz.results32, go_sem, y0]; rfl) rfl ?_
       exact ⟨_, rfl, hG, p', c', L', rfl, hn', by rw [hu, HX.out]; rfl, HNP.out⟩
      ·refine Inv.wpL_val (v := ?_) (w' := ?_) rfl rfl ?_ ?_ (fun K hK => ?_)
       rotate_left 2
       ·go_simp; first | rfl | (constructor <;> rfl)
       ·exact ⟨GW.out.trans ((g1).alloc _), TW.out.grow ((g1).alloc _)⟩
       go_simp
       refine hK _ _ ?_
       clear hK K
       have BU := SlL.new W1 69 encU_len [(⟨m, s⟩ : UnitM)] #[.int .i64 m, .int .i64 s] 1 rfl rfl (by decide)
       have su := BU.2
       have o1 := o1.grow BU.1
       have g1 := g1.trans BU.1
       clear BU
       generalize W1.heap.size = b8 at su ⊢
       generalize W1.alloc _ = W1 at su o1 g1 ⊢
       refine Inv.wpL_do rfl rfl (fun K hK => ?_)
       refine wp_appendF _ _ 64 69 _ 16 rfl Tryz.underlying64 unit_info rfl (by decide) encU_len encU_one W0.heap.size (some ⟨b1, 0, none⟩) _ [] (lx.take j) rfl o1 rfl (SlL.grow s1 g1) (by simp only [List.length_nil, hl1]; omega) (by simp only [List.length_nil, hl1]; omega) g1.size ?_
       intro v6 W6 ho6 g16
       have g6 := g1.trans g16
       refine ⟨⟨GW.out.trans g6, TW.out.grow g6⟩, hK _ _ ?_⟩
       clear hK K
       have su := SlL.grow su g16
       clear o1 g1 g16
       rw [List.nil_append] at ho6
       refine Inv.wpL_do rfl rfl (fun K hK => ?_)
       refine wp_appendL _ _ 64 69 _ 16 rfl Tryz.underlying64 unit_info rfl (by decide) encU_len encU_one W0.heap.size v6 _ (lx.take j) ([(⟨m, s⟩ : UnitM)]) rfl ho6 rfl (su) (by simp only [List.length_append, List.length_nil, hl1, hl2, List.length_singleton]; omega) (by simp only [List.length_append, List.length_nil, hl1, hl2, List.length_singleton]; omega) (g6).size ?_
       intro v11 W11 ho11 k11
       have g11 := (ho6).gr (g6) k11
       refine ⟨⟨GW.out.trans g11, TW.out.grow g11⟩, hK _ _ ?_⟩
       clear hK K
       refine Inv.wpL_do rfl rfl (fun K hK => ?_)
       refine wp_appendL _ _ 64 69 _ 16 rfl Tryz.underlying64 unit_info rfl (by decide) encU_len encU_one W0.heap.size v11 _ (lx.take j ++ [(⟨m, s⟩ : UnitM)]) (lx.drop j) rfl ho11 rfl (SlL.grow s2 g11) (by simp only [List.length_append, List.length_nil, hl1, hl2, List.length_singleton]; omega) (by simp only [List.length_append, List.length_nil, hl1, hl2, List.length_singleton]; omega) (g11).size ?_
       intro v15 W15 ho15 k15
       have g15 := (ho11).gr (g11) k15
       refine ⟨⟨GW.out.trans g15, TW.out.grow g15⟩, hK _ _ ?_⟩
       clear hK K
       rw [List.append_assoc, List.singleton_append, ← HPO.out] at ho15
       obtain ⟨p3, c3, hv3, _, _⟩ := ho15.read.parts
       obtain ⟨N, hN⟩ : ∃ N, (putL lx ⟨m, s⟩).length = N := ⟨_, rfl⟩
       have HN3 := Lib.hid hN
       rw [hN] at hv3
       subst hv3
       have HO3 := Lib.hid (show OwnU W15 W0.heap.size (rowV ⟨p3, c3, putL lx ⟨m, s⟩⟩) (putL lx ⟨m, s⟩) from by
        show OwnU W15 _ (.slice p3 (putL lx ⟨m, s⟩).length c3) _
        rw [HN3.out]; exact ho15)
       have hdl := putL_len lx ⟨m, s⟩
       clear hN s1 s2 ho6 ho11 ho15 k15 k11 su
       refine Inv.wpL_fn (args := ?_) rfl rfl rfl rfl rfl rfl (by kernel_rfl) (by kernel_rfl) ?_ (fun K hK => ?_)
       rotate_left
       ·go_simp; rfl
       rw [show Value.slice p3 N c3 = rowV ⟨p3, c3, putL lx ⟨m, s⟩⟩ from by unfold rowV; rw [HN3.out]]
       refine (ref_with W15 p c L item ⟨p3, c3, putL lx ⟨m, s⟩⟩ (HPW.out.grow g15) HF.out HO3.out.read (by dsimp only; omega) HII.out).mono ?_
       rintro _ W4 ⟨_, rfl, g4, p', c', L', rfl, hn, hp', hz', hu⟩
       have g04 := g15.trans g4
       refine ⟨_, rfl, ⟨GW.out.trans g04, TW.out.grow g04⟩, ?_⟩
       unfold plcV
       go_simp
       refine hK _ _ ?_
       clear hK K
       have T64 := T6W.out.grow g04
       have q0 := T64.at 0 rfl
       have q1 := Cells.f T64 0
       have hle : W0.heap.size ≤ W15.heap.size := g15.size
       refine Inv.wpL_do rfl rfl (fun K hK => ?_)
       go_simp
       have hn' := plc_keep (b := b6) (i := 0) (u := .slice p' L'.length c') hn hp' hz' (by have := HL6.out; have := HSW.out; omega) (fun a ha e => by
        have := (own_ptr (x := ⟨p3, c3, putL lx ⟨m, s⟩⟩) HO3.out a ha).1
        have := HL6.out
        have := HSW.out
        omega)
       have HNP := Lib.hid (newP_of (n := w.heap.size) hp' hz' (by have := HB6.out; have := HL6.out; have := HSW.out; omega) (fun a ha => by
        have := (own_ptr (x := ⟨p3, c3, putL lx ⟨m, s⟩⟩) HO3.out a ha).1
        have := HL6.out
        have := HSW.out
        have := HB6.out
        omega))
       have hT := T64.set 0 (.slice p' L'.length c')
       have hG := (GW.out.trans g04).set HB6.out (i := 0) (.slice p' L'.length c')
       have hTP := (TW.out.grow g04).upd (upd_set W4 b6 0 (.slice p' L'.length c')) HNE.out
       refine ⟨⟨hG, hTP⟩, hK _ _ ?_⟩
       clear hK K q0 q1 hn hTP
       generalize W4.setCell _ _ = W5 at hn' hT hG ⊢
       refine Inv.wpL_stop ?_
       go_wp2_with fail
       have y0 := hT.at 0 rfl
       refine bodyPost_ret (by simp [results, Tryz.results32, go_sem, y0]; rfl) rfl ?_
       exact ⟨_, rfl, hG, p', c', L', rfl, hn', by rw [hu, HX.out]; rfl, HNP.out⟩
     ·have gr := Gr.refl W0
      refine Inv.wpL_val (v := ?_) (w' := ?_) rfl rfl ?_ ?_ (fun K hK => ?_)
      rotate_left 2
      ·go_simp; first | rfl | (constructor <;> rfl)
      ·exact ⟨GW.out.trans ((gr).alloc _), TW.out.grow ((gr).alloc _)⟩
      go_simp
      refine hK _ _ ?_
      clear hK K
      have BU := SlL.new W0 69 encU_len [(⟨m, s⟩ : UnitM)] #[.int .i64 m, .int .i64 s] 1 rfl rfl (by decide)
      have su := BU.2
      have g1 := BU.1
      clear BU gr
      generalize W0.heap.size = b8 at su ⊢
      generalize hW1 : W0.alloc _ = W1 at su g1 ⊢
      clear hW1
      refine Inv.wpL_val (v := ?_) (w' := ?_) rfl rfl ?_ ?_ (fun K hK => ?_)
      rotate_left 2
      ·go_simp; first | rfl | (constructor <;> rfl)
      ·exact ⟨GW.out.trans (g1.alloc _), TW.out.grow (g1.alloc _)⟩
      go_simp
      refine hK _ _ ?_
      clear hK K
      have o1 := OwnL.made0 (sz := 2) (enc := encU) W1 W0.heap.size 69 g1.size
      have su := SlL.grow su (show Gr W1 (W1.alloc (.cells #[] 69)) from (Gr.refl _).alloc _)
      have g1 : Gr W0 (W1.alloc (.cells #[] 69)) := g1.alloc _
      obtain ⟨b1, hb1⟩ : ∃ b, W1.heap.size = b := ⟨_, rfl⟩
      generalize hW1 : W1.alloc _ = W1' at su o1 g1 ⊢
      clear hW1
      rw [hb1] at o1 ⊢
      refine Inv.wpL_do rfl rfl (fun K hK => ?_)
      refine wp_appendF _ _ 64 69 _ 16 rfl Tryz.underlying64 unit_info rfl (by decide) encU_len encU_one W0.heap.size (some ⟨b1, 0, none⟩) _ [] (lx.take j) rfl o1 rfl (SlL.grow s1 g1) (by simp only [List.length_nil, hl1]; omega) (by simp only [List.length_nil, hl1]; omega) g1.size ?_
      intro v6 W6 ho6 g16
      have g6 := g1.trans g16
      refine ⟨⟨GW.out.trans g6, TW.out.grow g6⟩, hK _ _ ?_⟩
      clear hK K
      have su := SlL.grow su g16
      clear o1 g1 g16
      rw [List.nil_append] at ho6
      refine Inv.wpL_do rfl rfl (fun K hK => ?_)
      refine wp_appendL _ _ 64 69 _ 16 rfl Tryz.underlying64 unit_info rfl (by decide) encU_len encU_one W0.heap.size v6 _ (lx.take j) ([(⟨m, s⟩ : UnitM)]) rfl ho6 rfl (su) (by simp only [List.length_append, List.length_nil, hl1, hl2, List.length_singleton]; omega) (by simp only [List.length_append, List.length_nil, hl1, hl2, List.length_singleton]; omega) (g6).size ?_
      intro v11 W11 ho11 k11
      have g11 := (ho6).gr (g6) k11
      refine ⟨⟨GW.out.trans g11, TW.out.grow g11⟩, hK _ _ ?_⟩
      clear hK K
      refine Inv.wpL_do rfl rfl (fun K hK => ?_)
      refine wp_appendL _ _ 64 69 _ 16 rfl Tryz.underlying64 unit_info rfl (by decide) encU_len encU_one W0.heap.size v11 _ (lx.take j ++ [(⟨m, s⟩ : UnitM)]) (lx.drop j) rfl ho11 rfl (SlL.grow s2 g11) (by simp only [List.length_append, List.length_nil, hl1, hl2, List.length_singleton]; omega) (by simp only [List.length_append, List.length_nil, hl1, hl2, List.length_singleton]; omega) (g11).size ?_
      intro v15 W15 ho15 k15
      have g15 := (ho11).gr (g11) k15
      refine ⟨⟨GW.out.trans g15, TW.out.grow g15⟩, hK _ _ ?_⟩
      clear hK K
      rw [List.append_assoc, List.singleton_append, ← HPO.out] at ho15
      obtain ⟨p3, c3, hv3, _, _⟩ := ho15.read.parts
      obtain ⟨N, hN⟩ : ∃ N, (putL lx ⟨m, s⟩).length = N := ⟨_, rfl⟩
      have HN3 := Lib.hid hN
      rw [hN] at hv3
      subst hv3
      have HO3 := Lib.hid (show OwnU W15 W0.heap.size (rowV ⟨p3, c3, putL lx ⟨m, s⟩⟩) (putL lx ⟨m, s⟩) from by
       show OwnU W15 _ (.slice p3 (putL lx ⟨m, s⟩).length c3) _
       rw [HN3.out]; exact ho15)
      have hdl := putL_len lx ⟨m, s⟩
      clear hN s1 s2 ho6 ho11 ho15 k15 k11 su
      refine Inv.wpL_fn (args := ?_) rfl rfl rfl rfl rfl rfl (by kernel_rfl) (by kernel_rfl) ?_ (fun K hK => ?_)
      rotate_left
      ·go_simp; rfl
      rw [show Value.slice p3 N c3 = rowV ⟨p3, c3, putL lx ⟨m, s⟩⟩ from by unfold rowV; rw [HN3.out]]
      refine (ref_with W15 p c L item ⟨p3, c3, putL lx ⟨m, s⟩⟩ (HPW.out.grow g15) HF.out HO3.out.read (by dsimp only; omega) HII.out).mono ?_
      rintro _ W4 ⟨_, rfl, g4, p', c', L', rfl, hn, hp', hz', hu⟩
      have g04 := g15.trans g4
      refine ⟨_, rfl, ⟨GW.out.trans g04, TW.out.grow g04⟩, ?_⟩
      unfold plcV
      go_simp
      refine hK _ _ ?_
      clear hK K
      have T64 := T6W.out.grow g04
      have q0 := T64.at 0 rfl
      have q1 := Cells.f T64 0
      have hle : W0.heap.size ≤ W15.heap.size := g15.size
      refine Inv.wpL_do rfl rfl (fun K hK => ?_)
      go_simp
      have hn' := plc_keep (b := b6) (i := 0) (u := .slice p' L'.length c') hn hp' hz' (by have := HL6.out; have := HSW.out; omega) (fun a ha e => by
       have := (own_ptr (x := ⟨p3, c3, putL lx ⟨m, s⟩⟩) HO3.out a ha).1
       have := HL6.out
       have := HSW.out
       omega)
      have HNP := Lib.hid (newP_of (n := w.heap.size) hp' hz' (by have := HB6.out; have := HL6.out; have := HSW.out; omega) (fun a ha => by
       have := (own_ptr (x := ⟨p3, c3, putL lx ⟨m, s⟩⟩) HO3.out a ha).1
       have := HL6.out
       have := HSW.out
       have := HB6.out
       omega))
      have hT := T64.set 0 (.slice p' L'.length c')
      have hG := (GW.out.trans g04).set HB6.out (i := 0) (.slice p' L'.length c')
      have hTP := (TW.out.grow g04).upd (upd_set W4 b6 0 (.slice p' L'.length c')) HNE.out
      refine ⟨⟨hG, hTP⟩, hK _ _ ?_⟩
      clear hK K q0 q1 hn hTP
      generalize W4.setCell _ _ = W5 at hn' hT hG ⊢
      refine Inv.wpL_stop ?_
      go_wp2_with fail
      have y0 := hT.at 0 rfl
      refine bodyPost_ret (by simp [results, Tryz.results32, go_sem, y0]; rfl) rfl ?_
      exact ⟨_, rfl, hG, p', c', L', rfl, hn', by rw [hu, HX.out]; rfl, HNP.out⟩
    ·have hpm' : y.mach ≤ m := by omega
     have hk1 : IntKind.i64.wrap ((j : Int) + 1) = (j : Int) + 1 := by rw [IntKind.wrap_i64]; omega
     have HPM := Lib.hid (show past m y = false by unfold past; simp; omega)
     clear hpm
     go_wp2_with fail
     refine ⟨⟨j + 1, by go_num, by omega, fun i z hi hz => ?_, by first | rfl | trivial⟩, by simp [RowKit.intOf]; omega⟩
     by_cases h : i = j
     ·subst h
      obtain rfl : z = y := Option.some.inj (hz.symm.trans HY.out)
      exact HPM.out
     ·exact HQ.out i z (by omega) hz
   ·obtain rfl : j = lx.length := by omega
    have HPO := Lib.hid (put_out (s := s) HNF.out (show spotL lx m = lx.length by
     have h1 := firstAt_none (p := past m) HQ.out
     rcases firstAt_cases (past m) lx with ⟨h2, _, h3⟩ | ⟨k, _, h2, _, _, _, h3⟩
     ·unfold spotL; rw [h3]
     ·omega))
    go_wp2_with fail
    have g0 : Gr wr wr.drew := (Gr.refl wr).drew
    have hI0 : Gr w wr.drew ∧ Cells wr.drew bp #[.slice p L.length c] := ⟨G.out.trans g0, TP.out.grow g0⟩
    have HI0 := Lib.hid (show ∀ w', Gr w w' ∧ Cells w' bp #[.slice p L.length c] → w'.cell? ⟨bp, 0, none⟩ = some (.slice p L.length c) from fun w' h => h.2.at 0 rfl)
    have p0 := HI0.out
    have hkc : ((lx.length : Nat) : Int) ≤ (c9 : Int) := by omega
    have hk0 : (0 : Int) ≤ ((lx.length : Nat) : Int) := by omega
    refine Inv.wp_region_loose (fun w' => Gr w w' ∧ Cells w' bp #[.slice p L.length c]) (.read 0 (.read 1 (.read 3 (.read 4 (.read 5 (.read 7 (.read 8 (.read 9 (.read 12 (.read 13 (.read 14 (.two 2 (.two 6 (.one 10 (.one 11 (.one 15 (.one 16 (.one 17 .stop))))) 10 (.one 6 (.one 11 (.one 15 (.one 16 (.one 17 .stop)))))) 10 (.one 2 (.one 6 (.one 11 (.one 15 (.one 16 (.one 17 .stop)))))))))))))))))) hI0 (by kernel_rfl) (by kernel_rfl) rfl (by kernel_rfl) (fun _ _ d _ _ h => by cases d <;> exact h) ?_
    repeat (refine Inv.wpL_read (v := ?_) rfl rfl (fun w' hg => ?_) (fun K hK => ?_); rotate_left; (go_simp; rfl); go_simp; refine hK _ _ ?_; clear hK K)
    have hon9 : UnL wr.drew (.slice p9 lx.length c9) lx := SlL.grow HO9.out.read g0
    have s1 := SlL.take encU_len hon9 rfl lx.length (by omega)
    have s2 := SlL.restP encU_len hon9 (k := lx.length) (by omega)
    skip
    obtain ⟨q, hq⟩ : ∃ q : Option Addr, (if c9 = lx.length then (p9 : Option Addr) else Option.map (fun x => x.add (lx.length * 2)) p9) = q := ⟨_, rfl⟩
    rw [hq] at s2 ⊢
    rw [Nat.sub_self] at s2
    have hl1 : (lx.take lx.length).length = lx.length := by rw [List.length_take]; omega
    have hl2 : (lx.drop lx.length).length = lx.length - lx.length := List.length_drop
    have GW := Lib.hid hI0.1
    have TW := Lib.hid hI0.2
    have HPW := Lib.hid (HP0.out.grow hI0.1)
    have HSW := Lib.hid (show b7 ≤ wr.drew.heap.size from Nat.le_trans HL9.out g0.size)
    have T6W := Lib.hid (T6.out.grow g0)
    clear hq hon9 hI0 p0 g0
    generalize wr.drew = W0 at s1 s2 GW TW HPW HSW T6W ⊢
    refine Inv.wpL_two ?_ ?_
    ·refine Inv.wpL_val (v := ?_) (w' := ?_) rfl rfl ?_ ?_ (fun K hK => ?_)
     rotate_left 2
     ·go_simp; first | rfl | (constructor <;> rfl)
     ·exact ⟨GW.out.alloc _, TW.out.grow ((Gr.refl W0).alloc _)⟩
     go_simp
     refine hK _ _ ?_
     clear hK K
     have o1 := OwnL.made0 (sz := 2) (enc := encU) W0 W0.heap.size 69 (Nat.le_refl _)
     have g1 : Gr W0 (W0.alloc (.cells #[] 69)) := (Gr.refl _).alloc _
     obtain ⟨b1, hb1⟩ : ∃ b, W0.heap.size = b := ⟨_, rfl⟩
     generalize hW1 : W0.alloc _ = W1 at o1 g1 ⊢
     clear hW1
     rw [show (Value.slice (some ⟨W0.heap.size, 0, none⟩) 0 0) = .slice (some ⟨b1, 0, none⟩) 0 0 by rw [hb1]] at o1
     rw [hb1]
     refine Inv.wpL_two ?_ ?_
     ·refine Inv.wpL_do rfl rfl (fun K hK => ?_)
      refine wp_appendF _ _ 64 69 _ 16 rfl Tryz.underlying64 unit_info rfl (by decide) encU_len encU_one W0.heap.size (some ⟨b1, 0, none⟩) _ [] (lx.take lx.length) rfl o1 rfl (SlL.grow s1 g1) (by simp only [List.length_nil, hl1]; omega) (by simp only [List.length_nil, hl1]; omega) g1.size ?_
      intro v6 W6 ho6 g16
      have g6 := g1.trans g16
      refine ⟨⟨GW.out.trans g6, TW.out.grow g6⟩, hK _ _ ?_⟩
      clear hK K
      refine Inv.wpL_val (v := ?_) (w' := ?_) rfl rfl ?_ ?_ (fun K hK => ?_)
      rotate_left 2
      ·go_simp; first | rfl | (constructor <;> rfl)
      ·exact ⟨GW.out.trans ((g6).alloc _), TW.out.grow ((g6).alloc _)⟩
      go_simp
      refine hK _ _ ?_
      clear hK K
      have BU := SlL.new W6 69 encU_len [(⟨m, s⟩ : UnitM)] #[.int .i64 m, .int .i64 s] 1 rfl rfl (by decide)
      have su := BU.2
      have ho6 := ho6.grow BU.1
      have g6 := g6.trans BU.1
      clear BU o1 g1
      generalize W6.heap.size = b8 at su ⊢
      generalize W6.alloc _ = W6 at su ho6 g6 ⊢
      rw [List.nil_append] at ho6
      refine Inv.wpL_do rfl rfl (fun K hK => ?_)
      refine wp_appendL _ _ 64 69 _ 16 rfl Tryz.underlying64 unit_info rfl (by decide) encU_len encU_one W0.heap.size v6 _ (lx.take lx.length) ([(⟨m, s⟩ : UnitM)]) rfl ho6 rfl (su) (by simp only [List.length_append, List.length_nil, hl1, hl2, List.length_singleton]; omega) (by simp only [List.length_append, List.length_nil, hl1, hl2, List.length_singleton]; omega) (g6).size ?_
      intro v11 W11 ho11 k11
      have g11 := (ho6).gr (g6) k11
      refine ⟨⟨GW.out.trans g11, TW.out.grow g11⟩, hK _ _ ?_⟩
      clear hK K
      refine Inv.wpL_do rfl rfl (fun K hK => ?_)
      refine wp_appendL _ _ 64 69 _ 16 rfl Tryz.underlying64 unit_info rfl (by decide) encU_len encU_one W0.heap.size v11 _ (lx.take lx.length ++ [(⟨m, s⟩ : UnitM)]) (lx.drop lx.length) rfl ho11 rfl (SlL.grow s2 g11) (by simp only [List.length_append, List.length_nil, hl1, hl2, List.length_singleton]; omega) (by simp only [List.length_append, List.length_nil, hl1, hl2, List.length_singleton]; omega) (g11).size ?_
      intro v15 W15 ho15 k15
      have g15 := (ho11).gr (g11) k15
      refine ⟨⟨GW.out.trans g15, TW.out.grow g15⟩, hK _ _ ?_⟩
      clear hK K
      rw [List.append_assoc, List.singleton_append, ← HPO.out] at ho15
      obtain ⟨p3, c3, hv3, _, _⟩ := ho15.read.parts
      obtain ⟨N, hN⟩ : ∃ N, (putL lx ⟨m, s⟩).length = N := ⟨_, rfl⟩
      have HN3 := Lib.hid hN
      rw [hN] at hv3
      subst hv3
      have HO3 := Lib.hid (show OwnU W15 W0.heap.size (rowV ⟨p3, c3, putL lx ⟨m, s⟩⟩) (putL lx ⟨m, s⟩) from by
       show OwnU W15 _ (.slice p3 (putL lx ⟨m, s⟩).length c3) _
       rw [HN3.out]; exact ho15)
      have hdl := putL_len lx ⟨m, s⟩
      clear hN s1 s2 ho6 ho11 ho15 k15 k11 su
      refine Inv.wpL_fn (args := ?_) rfl rfl rfl rfl rfl rfl (by kernel_rfl) (by kernel_rfl) ?_ (fun K hK => ?_)
      rotate_left
      ·go_simp; rfl
      rw [show Value.slice p3 N c3 = rowV ⟨p3, c3, putL lx ⟨m, s⟩⟩ from by unfold rowV; rw [HN3.out]]
      refine (ref_with W15 p c L item ⟨p3, c3, putL lx ⟨m, s⟩⟩ (HPW.out.grow g15) HF.out HO3.out.read (by dsimp only; omega) HII.out).mono ?_
      rintro _ W4 ⟨_, rfl, g4, p', c', L', rfl, hn, hp', hz', hu⟩
      have g04 := g15.trans g4
      refine ⟨_, rfl, ⟨GW.out.trans g04, TW.out.grow g04⟩, ?_⟩
      unfold plcV
      go_simp
      refine hK _ _ ?_
      clear hK K
      have T64 := T6W.out.grow g04
      have q0 := T64.at 0 rfl
      have q1 := Cells.f T64 0
      have hle : W0.heap.size ≤ W15.heap.size := g15.size
      refine Inv.wpL_do rfl rfl (fun K hK => ?_)
      go_simp
      have hn' := plc_keep (b := b6) (i := 0) (u := .slice p' L'.length c') hn hp' hz' (by have := HL6.out; have := HSW.out; omega) (fun a ha e => by
       have := (own_ptr (x := ⟨p3, c3, putL lx ⟨m, s⟩⟩) HO3.out a ha).1
       have := HL6.out
       have := HSW.out
       omega)
      have HNP := Lib.hid (newP_of (n := w.heap.size) hp' hz' (by have := HB6.out; have := HL6.out; have := HSW.out; omega) (fun a ha => by
       have := (own_ptr (x := ⟨p3, c3, putL lx ⟨m, s⟩⟩) HO3.out a ha).1
       have := HL6.out
       have := HSW.out
       have := HB6.out
       omega))
      have hT := T64.set 0 (.slice p' L'.length c')
      have hG := (GW.out.trans g04).set HB6.out (i := 0) (.slice p' L'.length c')
      have hTP := (TW.out.grow g04).upd (upd_set W4 b6 0 (.slice p' L'.length c')) HNE.out
      refine ⟨⟨hG, hTP⟩, hK _ _ ?_⟩
      clear hK K q0 q1 hn hTP
      generalize W4.setCell _ _ = W5 at hn' hT hG ⊢
      refine Inv.wpL_stop ?_
      go_wp2_with fail
      have y0 := hT.at 0 rfl
      refine bodyPost_ret (by simp [results, Tryz.results32, go_sem, y0]; rfl) rfl ?_
      exact ⟨_, rfl, hG, p', c', L', rfl, hn', by rw [hu, HX.out]; rfl, HNP.out⟩
     ·refine Inv.wpL_val (v := ?_) (w' := ?_) rfl rfl ?_ ?_ (fun K hK => ?_)
      rotate_left 2
      ·go_simp; first | rfl | (constructor <;> rfl)
      ·exact ⟨GW.out.trans ((g1).alloc _), TW.out.grow ((g1).alloc _)⟩
      go_simp
      refine hK _ _ ?_
      clear hK K
      have BU := SlL.new W1 69 encU_len [(⟨m, s⟩ : UnitM)] #[.int .i64 m, .int .i64 s] 1 rfl rfl (by decide)
      have su := BU.2
      have o1 := o1.grow BU.1
      have g1 := g1.trans BU.1
      clear BU
      generalize W1.heap.size = b8 at su ⊢
      generalize W1.alloc _ = W1 at su o1 g1 ⊢
      refine Inv.wpL_do rfl rfl (fun K hK => ?_)
      refine wp_appendF _ _ 64 69 _ 16 rfl Tryz.underlying64 unit_info rfl (by decide) encU_len encU_one W0.heap.size (some ⟨b1, 0, none⟩) _ [] (lx.take lx.length) rfl o1 rfl (SlL.grow s1 g1) (by simp only [List.length_nil, hl1]; omega) (by simp only [List.length_nil, hl1]; omega) g1.size ?_
      intro v6 W6 ho6 g16
      have g6 := g1.trans g16
      refine ⟨⟨GW.out.trans g6, TW.out.grow g6⟩, hK _ _ ?_⟩
      clear hK K
      have su := SlL.grow su g16
      clear o1 g1 g16
      rw [List.nil_append] at ho6
      refine Inv.wpL_do rfl rfl (fun K hK => ?_)
      refine wp_appendL _ _ 64 69 _ 16 rfl Tryz.underlying64 unit_info rfl (by decide) encU_len encU_one W0.heap.size v6 _ (lx.take lx.length) ([(⟨m, s⟩ : UnitM)]) rfl ho6 rfl (su) (by simp only [List.length_append, List.length_nil, hl1, hl2, List.length_singleton]; omega) (by simp only [List.length_append, List.length_nil, hl1, hl2, List.length_singleton]; omega) (g6).size ?_
      intro v11 W11 ho11 k11
      have g11 := (ho6).gr (g6) k11
      refine ⟨⟨GW.out.trans g11, TW.out.grow g11⟩, hK _ _ ?_⟩
      clear hK K
      refine Inv.wpL_do rfl rfl (fun K hK => ?_)
      refine wp_appendL _ _ 64 69 _ 16 rfl Tryz.underlying64 unit_info rfl (by decide) encU_len encU_one W0.heap.size v11 _ (lx.take lx.length ++ [(⟨m, s⟩ : UnitM)]) (lx.drop lx.length) rfl ho11 rfl (SlL.grow s2 g11) (by simp only [List.length_append, List.length_nil, hl1, hl2, List.length_singleton]; omega) (by simp only [List.length_append, List.length_nil, hl1, hl2, List.length_singleton]; omega) (g11).size ?_
      intro v15 W15 ho15 k15
      have g15 := (ho11).gr (g11) k15
      refine ⟨⟨GW.out.trans g15, TW.out.grow g15⟩, hK _ _ ?_⟩
      clear hK K
      rw [List.append_assoc, List.singleton_append, ← HPO.out] at ho15
      obtain ⟨p3, c3, hv3, _, _⟩ := ho15.read.parts
      obtain ⟨N, hN⟩ : ∃ N, (putL lx ⟨m, s⟩).length = N := ⟨_, rfl⟩
      have HN3 := Lib.hid hN
      rw [hN] at hv3
      subst hv3
      have HO3 := Lib.hid (show OwnU W15 W0.heap.size (rowV ⟨p3, c3, putL lx ⟨m, s⟩⟩) (putL lx ⟨m, s⟩) from by
       show OwnU W15 _ (.slice p3 (putL lx ⟨m, s⟩).length c3) _
       rw [HN3.out]; exact ho15)
      have hdl := putL_len lx ⟨m, s⟩
      clear hN s1 s2 ho6 ho11 ho15 k15 k11 su
      refine Inv.wpL_fn (args := ?_) rfl rfl rfl rfl rfl rfl (by kernel_rfl) (by kernel_rfl) ?_ (fun K hK => ?_)
      rotate_left
      ·go_simp; rfl
      rw [show Value.slice p3 N c3 = rowV ⟨p3, c3, putL lx ⟨m, s⟩⟩ from by unfold rowV; rw [HN3.out]]
      refine (ref_with W15 p c L item ⟨p3, c3, putL lx ⟨m, s⟩⟩ (HPW.out.grow g15) HF.out HO3.out.read (by dsimp only; omega) HII.out).mono ?_
      rintro _ W4 ⟨_, rfl, g4, p', c', L', rfl, hn, hp', hz', hu⟩
      have g04 := g15.trans g4
      refine ⟨_, rfl, ⟨GW.out.trans g04, TW.out.grow g04⟩, ?_⟩
      unfold plcV
      go_simp
      refine hK _ _ ?_
      clear hK K
      have T64 := T6W.out.grow g04
      have q0 := T64.at 0 rfl
      have q1 := Cells.f T64 0
      have hle : W0.heap.size ≤ W15.heap.size := g15.size
      refine Inv.wpL_do rfl rfl (fun K hK => ?_)
      go_simp
      have hn' := plc_keep (b := b6) (i := 0) (u := .slice p' L'.length c') hn hp' hz' (by have := HL6.out; have := HSW.out; omega) (fun a ha e => by
       have := (own_ptr (x := ⟨p3, c3, putL lx ⟨m, s⟩⟩) HO3.out a ha).1
       have := HL6.out
       have := HSW.out
       omega)
      have HNP := Lib.hid (newP_of (n := w.heap.size) hp' hz' (by have := HB6.out; have := HL6.out; have := HSW.out; omega) (fun a ha => by
       have := (own_ptr (x := ⟨p3, c3, putL lx ⟨m, s⟩⟩) HO3.out a ha).1
       have := HL6.out
       have := HSW.out
       have := HB6.out
       omega))
      have hT := T64.set 0 (.slice p' L'.length c')
      have hG := (GW.out.trans g04).set HB6.out (i := 0) (.slice p' L'.length c')
      have hTP := (TW.out.grow g04).upd (upd_set W4 b6 0 (.slice p' L'.length c')) HNE.out
      refine ⟨⟨hG, hTP⟩, hK _ _ ?_⟩
      clear hK K q0 q1 hn hTP
      generalize W4.setCell _ _ = W5 at hn' hT hG ⊢
      refine Inv.wpL_stop ?_
      go_wp2_with fail
      have y0 := hT.at 0 rfl
      refine bodyPost_ret (by simp [results, Tryz.results32, go_sem, y0]; rfl) rfl ?_
      exact ⟨_, rfl, hG, p', c', L', rfl, hn', by rw [hu, HX.out]; rfl, HNP.out⟩
    ·have gr := Gr.refl W0
     refine Inv.wpL_val (v := ?_) (w' := ?_) rfl rfl ?_ ?_ (fun K hK => ?_)
     rotate_left 2
     ·go_simp; first | rfl | (constructor <;> rfl)
     ·exact ⟨GW.out.trans ((gr).alloc _), TW.out.grow ((gr).alloc _)⟩
     go_simp
     refine hK _ _ ?_
     clear hK K
     have BU := SlL.new W0 69 encU_len [(⟨m, s⟩ : UnitM)] #[.int .i64 m, .int .i64 s] 1 rfl rfl (by decide)
     have su := BU.2
     have g1 := BU.1
     clear BU gr
     generalize W0.heap.size = b8 at su ⊢
     generalize hW1 : W0.alloc _ = W1 at su g1 ⊢
     clear hW1
     refine Inv.wpL_val (v := ?_) (w' := ?_) rfl rfl ?_ ?_ (fun K hK => ?_)
     rotate_left 2
     ·go_simp; first | rfl | (constructor <;> rfl)
     ·exact ⟨GW.out.trans (g1.alloc _), TW.out.grow (g1.alloc _)⟩
     go_simp
     refine hK _ _ ?_
     clear hK K
     have o1 := OwnL.made0 (sz := 2) (enc := encU) W1 W0.heap.size 69 g1.size
     have su := SlL.grow su (show Gr W1 (W1.alloc (.cells #[] 69)) from (Gr.refl _).alloc _)
     have g1 : Gr W0 (W1.alloc (.cells #[] 69)) := g1.alloc _
     obtain ⟨b1, hb1⟩ : ∃ b, W1.heap.size = b := ⟨_, rfl⟩
     generalize hW1 : W1.alloc _ = W1' at su o1 g1 ⊢
     clear hW1
     rw [hb1] at o1 ⊢
     refine Inv.wpL_do rfl rfl (fun K hK => ?_)
     refine wp_appendF _ _ 64 69 _ 16 rfl Tryz.underlying64 unit_info rfl (by decide) encU_len encU_one W0.heap.size (some ⟨b1, 0, none⟩) _ [] (lx.take lx.length) rfl o1 rfl (SlL.grow s1 g1) (by simp only [List.length_nil, hl1]; omega) (by simp only [List.length_nil, hl1]; omega) g1.size ?_
     intro v6 W6 ho6 g16
     have g6 := g1.trans g16
     refine ⟨⟨GW.out.trans g6, TW.out.grow g6⟩, hK _ _ ?_⟩
     clear hK K
     have su := SlL.grow su g16
     clear o1 g1 g16
     rw [List.nil_append] at ho6
     refine Inv.wpL_do rfl rfl (fun K hK => ?_)
     refine wp_appendL _ _ 64 69 _ 16 rfl Tryz.underlying64 unit_info rfl (by decide) encU_len encU_one W0.heap.size v6 _ (lx.take lx.length) ([(⟨m, s⟩ : UnitM)]) rfl ho6 rfl (su) (by simp only [List.length_append, List.length_nil, hl1, hl2, List.length_singleton]; omega) (by simp only [List.length_append, List.length_nil, hl1, hl2, List.length_singleton]; omega) (g6).size ?_
     intro v11 W11 ho11 k11
     have g11 := (ho6).gr (g6) k11
     refine ⟨⟨GW.out.trans g11, TW.out.grow g11⟩, hK _ _ ?_⟩
     clear hK K
     refine Inv.wpL_do rfl rfl (fun K hK => ?_)
     refine wp_appendL _ _ 64 69 _ 16 rfl Tryz.underlying64 unit_info rfl (by decide) encU_len encU_one W0.heap.size v11 _ (lx.take lx.length ++ [(⟨m, s⟩ : UnitM)]) (lx.drop lx.length) rfl ho11 rfl (SlL.grow s2 g11) (by simp only [List.length_append, List.length_nil, hl1, hl2, List.length_singleton]; omega) (by simp only [List.length_append, List.length_nil, hl1, hl2, List.length_singleton]; omega) (g11).size ?_
     intro v15 W15 ho15 k15
     have g15 := (ho11).gr (g11) k15
     refine ⟨⟨GW.out.trans g15, TW.out.grow g15⟩, hK _ _ ?_⟩
     clear hK K
     rw [List.append_assoc, List.singleton_append, ← HPO.out] at ho15
     obtain ⟨p3, c3, hv3, _, _⟩ := ho15.read.parts
     obtain ⟨N, hN⟩ : ∃ N, (putL lx ⟨m, s⟩).length = N := ⟨_, rfl⟩
     have HN3 := Lib.hid hN
     rw [hN] at hv3
     subst hv3
     have HO3 := Lib.hid (show OwnU W15 W0.heap.size (rowV ⟨p3, c3, putL lx ⟨m, s⟩⟩) (putL lx ⟨m, s⟩) from by
      show OwnU W15 _ (.slice p3 (putL lx ⟨m, s⟩).length c3) _
      rw [HN3.out]; exact ho15)
     have hdl := putL_len lx ⟨m, s⟩
     clear hN s1 s2 ho6 ho11 ho15 k15 k11 su
     refine Inv.wpL_fn (args := ?_) rfl rfl rfl rfl rfl rfl (by kernel_rfl) (by kernel_rfl) ?_ (fun K hK => ?_)
     rotate_left
     ·go_simp; rfl
     rw [show Value.slice p3 N c3 = rowV ⟨p3, c3, putL lx ⟨m, s⟩⟩ from by unfold rowV; rw [HN3.out]]
     refine (ref_with W15 p c L item ⟨p3, c3, putL lx ⟨m, s⟩⟩ (HPW.out.grow g15) HF.out HO3.out.read (by dsimp only; omega) HII.out).mono ?_
     rintro _ W4 ⟨_, rfl, g4, p', c', L', rfl, hn, hp', hz', hu⟩
     have g04 := g15.trans g4
     refine ⟨_, rfl, ⟨GW.out.trans g04, TW.out.grow g04⟩, ?_⟩
     unfold plcV
     go_simp
     refine hK _ _ ?_
     clear hK K
     have T64 := T6W.out.grow g04
     have q0 := T64.at 0 rfl
     have q1 := Cells.f T64 0
     have hle : W0.heap.size ≤ W15.heap.size := g15.size
     refine Inv.wpL_do rfl rfl (fun K hK => ?_)
     go_simp
     have hn' := plc_keep (b := b6) (i := 0) (u := .slice p' L'.length c') hn hp' hz' (by have := HL6.out; have := HSW.out; omega) (fun a ha e => by
      have := (own_ptr (x := ⟨p3, c3, putL lx ⟨m, s⟩⟩) HO3.out a ha).1
      have := HL6.out
      have := HSW.out
      omega)
     have HNP := Lib.hid (newP_of (n := w.heap.size) hp' hz' (by have := HB6.out; have := HL6.out; have := HSW.out; omega) (fun a ha => by
      have := (own_ptr (x := ⟨p3, c3, putL lx ⟨m, s⟩⟩) HO3.out a ha).1
      have := HL6.out
      have := HSW.out
      have := HB6.out
      omega))
     have hT := T64.set 0 (.slice p' L'.length c')
     have hG := (GW.out.trans g04).set HB6.out (i := 0) (.slice p' L'.length c')
     have hTP := (TW.out.grow g04).upd (upd_set W4 b6 0 (.slice p' L'.length c')) HNE.out
     refine ⟨⟨hG, hTP⟩, hK _ _ ?_⟩
     clear hK K q0 q1 hn hTP
     generalize W4.setCell _ _ = W5 at hn' hT hG ⊢
     refine Inv.wpL_stop ?_
     go_wp2_with fail
     have y0 := hT.at 0 rfl
     refine bodyPost_ret (by simp [results, Tryz.results32, go_sem, y0]; rfl) rfl ?_
     exact ⟨_, rfl, hG, p', c', L', rfl, hn', by rw [hu, HX.out]; rfl, HNP.out⟩
 ·rw [h1]
  have um : u.mach = m := by simpa [onMach] using hu
  have HPI := Lib.hid (putl_state (s := s) h2 um h3)
  have hk := (List.getElem?_eq_some_iff.1 h2).1
  obtain ⟨gx, hpx, hob, hg1, hg2, hcap⟩ := unit_row (x := ⟨p9, c9, lx⟩) HO9.out h2
  dsimp only at hpx
  subst hpx
  have hk0 : (0 : Int) ≤ (k : Int) := by omega
  have hkl : (k : Int) < (lx.length : Int) := by omega
  obtain ⟨b1, b2, b3, b4, b5⟩ := OwnL.putS encU_len HO9.out (k := k) ⟨u.mach, s⟩ 1 (.int .i64 s) h2 (by decide) (by unfold encU; rfl)
  have HQ := Lib.hid b5
  unfold encU at b3
  simp only [List.getElem?_cons_zero, List.getElem?_cons_succ] at b3
  have p0 := TP.out.at 0 rfl
  clear h1 h2 h3 hu hob b1 b2 b5
  go_wp2_with fail
  have hq := HQ.out
  have hG := G.out.set (b := gx) (i := k * 2 + 1) (fun h => by have := HB7.out; omega) (.int .i64 s)
  have hT6 := T6.out.upd (upd_set w2 gx (k * 2 + 1) (.int .i64 s)) (fun e => by have := HL6.out; omega)
  have hTP := TP.out.upd (upd_set w2 gx (k * 2 + 1) (.int .i64 s)) (fun e => by have := HPB7.out; omega)
  have hsz : b7 ≤ (w2.setCell ⟨gx, k * 2 + 1, none⟩ (.int .i64 s)).heap.size := by
   have := HL9.out
   simpa [World.setCell] using this
  clear b3 b4 p0 HQ
  generalize w2.setCell _ _ = w3 at hq hG hT6 hTP hsz ⊢
  have HQ := Lib.hid (show OwnU w3 b7 (rowV ⟨some ⟨gx, 0, none⟩, c9, lx.set k ⟨u.mach, s⟩⟩) (lx.set k ⟨u.mach, s⟩) from by
   show OwnU w3 b7 (.slice (some ⟨gx, 0, none⟩) (lx.set k ⟨u.mach, s⟩).length c9) _
   rw [List.length_set]; exact hq)
  have G := Lib.hid hG
  have T6 := Lib.hid hT6
  have HSZ := Lib.hid hsz
  have TP := Lib.hid hTP
  clear hq hG hT6 hTP hsz
  have p0 := TP.out.at 0 rfl
  go_wp2_with fail
  clear p0
  have hsl : (lx.set k ⟨u.mach, s⟩).length = lx.length := List.length_set ..
  rw [show Value.slice (some ⟨gx, 0, none⟩) lx.length c9 = rowV ⟨some ⟨gx, 0, none⟩, c9, lx.set k ⟨u.mach, s⟩⟩ from by unfold rowV; rw [hsl]]
  refine (ref_with w3 p c L item ⟨some ⟨gx, 0, none⟩, c9, lx.set k ⟨u.mach, s⟩⟩ (HP0.out.grow G.out) HF.out HQ.out.read (by dsimp only; omega) HII.out).mono ?_
  rintro _ W4 ⟨_, rfl, g4, p', c', L', rfl, hn, hp', hz', hu⟩
  have G := Lib.hid (G.out.trans g4)
  have T64 := T6.out.grow g4
  have q0 := T64.at 0 rfl
  have q1 := Cells.f T64 0
  have hn' := plc_keep (b := b6) (i := 0) (u := .slice p' L'.length c') hn hp' hz' (by have := HL6.out; have := HSZ.out; omega) (fun a ha e => by
   have := (own_ptr (x := ⟨some ⟨gx, 0, none⟩, c9, lx.set k ⟨u.mach, s⟩⟩) HQ.out a ha).1
   have := HL6.out
   omega)
  have HNP := Lib.hid (newP_of (n := w.heap.size) hp' hz' (by have := HL6.out; have := HSZ.out; have := HB6.out; omega) (fun a ha => by
   have := (own_ptr (x := ⟨some ⟨gx, 0, none⟩, c9, lx.set k ⟨u.mach, s⟩⟩) HQ.out a ha).1
   have := HL6.out
   have := HB6.out
   omega))
  have hT := T64.set 0 (.slice p' L'.length c')
  have hG := G.out.set HB6.out (i := 0) (.slice p' L'.length c')
  have HU := Lib.hid hu
  clear hn hp' hz' g4 T64 hsl hu
  unfold plcV
  go_wp2_with fail
  clear q0 q1
  generalize W4.setCell _ _ = W5 at hn' hT hG ⊢
  have y0 := hT.at 0 rfl
  refine bodyPost_ret (by simp [results, Tryz.results32, go_sem, y0]; rfl) rfl ?_
  have hfin := HU.out
  rw [← HPI.out, HX.out] at hfin
  exact ⟨_, rfl, hG, p', c', L', rfl, hn', hfin, HNP.out⟩
end Go.Proofs.YtnlocdijdfclcaaGreatDoor

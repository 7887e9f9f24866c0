/-
 exodusref20.Format.
-/
import Derived.Test.YtchpbaaabnkkkaaGreatDoorPmF
namespace Go.Proofs.YtchpbaaabnkkkaaGreatDoor
open Go.RowKit Go.Lib Lex
set_option linter.unusedVariables false
set_option linter.unusedSimpArgs false

def lineJ (M : Mdl) (it : ItemM) (l : List UnitM) (j : Nat) : List UInt8 := (it.name ++ [58, 32]) ++ Lib.join ((l.take j).map (unitT M)) [44, 32]
theorem lineJ_zero (M : Mdl) (it : ItemM) (l : List UnitM) : lineJ M it l 0 = it.name ++ [58, 32] := by
 unfold lineJ
 simp [Lib.join_nil]
theorem lineJ_step {M : Mdl} {it : ItemM} {l : List UnitM} {j : Nat} {u : UnitM} (h : l[j]? = some u) : lineJ M it l (j + 1) = (((lineJ M it l j ++ if j = 0 then [] else [44, 32]) ++ machN M u.mach) ++ [32]) ++ stN u.st := by
 unfold lineJ
 have hj := (List.getElem?_eq_some_iff.1 h).1
 have e : (l.take (j + 1)).map (unitT M) = (l.take j).map (unitT M) ++ [unitT M u] := map_take _ h
 rw [e, join_snoc]
 by_cases h0 : j = 0
 ·subst h0
  rw [if_pos rfl, List.take_zero]
  simp [Lib.join_nil, unitT]
 ·rw [if_neg h0, if_neg (by
   intro h
   have := congrArg List.length h
   rw [List.length_map, List.length_take, Nat.min_eq_left (by omega)] at this
   exact h0 this)]
  simp [unitT]
theorem lineJ_len {M : Mdl} (h : Few M) {it : ItemM} (hn : it.name.length ≤ 100) {l : List UnitM} (hl : l.length ≤ 1000) (j : Nat) : (lineJ M it l j).length ≤ 111000 := by
 unfold lineJ
 have := join_bound (l := (l.take j).map (unitT M)) (fun x hx => by obtain ⟨u, _, rfl⟩ := List.mem_map.1 hx; exact unitT_len h u)
 rw [List.length_map, List.length_take] at this
 simp only [List.length_append, List.length_cons, List.length_nil]
 omega
theorem lineJ_end (M : Mdl) (it : ItemM) (l : List UnitM) : lineT M it l = if l = [] then lineJ M it l 0 ++ [110, 111, 116, 104, 105, 110, 103] else lineJ M it l l.length := by
 unfold lineT
 split
 ·rw [lineJ_zero]
 ·unfold lineJ; rw [List.take_length]
set_option maxRecDepth 100000 in
set_option maxHeartbeats 3200000 in
theorem ref_Format20 (w : World) (P : Ptrs) (M : Mdl) (p : Option Addr) (c : Nat) (L : List RowU) (hm : MdlAt w P M) (hf : Few M) (hp : PlcAt w p c L) (hk : FewK (usOf L)) :
  Calls Tryz.prog 27 #[.agg (mcells P M), plcV p c L] w (Ret w fun r w' => FormR M (usOf L) r w') := by
 have HF := Lib.hid hf
 have HK := Lib.hid hk
 clear hf hk
 have HM0 := Lib.hid hm
 have HP0 := Lib.hid hp
 have B0 := Cells.new w (mcells P M) 29
 have B1 := Cells.new (w.alloc (.cells (mcells P M) 29)) #[.slice p L.length c] 34
 simp only [World.size_alloc] at B1
 have G0 := Lib.hid (B0.1.trans B1.1)
 have H := Lib.hid (show _ ∧ _ from ⟨B0.2.grow B1.1, B1.2⟩)
 have o1 := OwnL.made0 (sz := 1) (enc := encS) ((w.alloc (.cells (mcells P M) 29)).alloc (.cells #[.slice p L.length c] 34)) ((w.alloc (.cells (mcells P M) 29)).alloc (.cells #[.slice p L.length c] 34)).heap.size 9 (Nat.le_refl _)
 have HSZ := Lib.hid (show ((w.alloc (.cells (mcells P M) 29)).alloc (.cells #[.slice p L.length c] 34)).heap.size = w.heap.size + 1 + 1 by simp)
 simp only [World.size_alloc] at o1
 have gA : Gr ((w.alloc (.cells (mcells P M) 29)).alloc (.cells #[.slice p L.length c] 34)) (((w.alloc (.cells (mcells P M) 29)).alloc (.cells #[.slice p L.length c] 34)).alloc (.cells #[] 9)) := (Gr.refl _).alloc _
 have m0 := mc0 H.out.1 _ gA
 have m1 := mc1 H.out.1 _ gA
 have m2 := mc2 H.out.1 _ gA
 have m3 := mc3 H.out.1 _ gA
 have m4 := mc4 H.out.1 _ gA
 have m5 := mc5 H.out.1 _ gA
 have m6 := mc6 H.out.1 _ gA
 have m7 := mc7 H.out.1 _ gA
 have m8 := mc8 H.out.1 _ gA
 have m9 := mc9 H.out.1 _ gA
 have m10 := mc10 H.out.1 _ gA
 have s0 := (H.out.2.grow gA).at 0 rfl
 have HO0 := Lib.hid o1
 have GA := Lib.hid gA
 clear B0 B1 hm hp o1 gA
 unfold mcells at H HO0 GA G0 HSZ m0 m1 m2 m3 m4 m5 m6 m7 m8 m9 m10 s0 ⊢
 unfold plcV
 go_enter Tryz.func27, Tryz.ntmps27
 go_wp2_with fail
 clear m0 m1 m2 m3 m4 m5 m6 m7 m8 m9 m10 s0
 generalize hb7 : w.heap.size + 1 + 1 = b7 at HO0 HSZ ⊢
 generalize w.heap.size + 1 = bp at H ⊢
 generalize w.heap.size = bm at H ⊢
 generalize (w.alloc _).alloc _ = W at H G0 GA HO0 HSZ ⊢
 generalize W.alloc _ = W1 at GA HO0 ⊢
 obtain rfl : W.heap.size = b7 := HSZ.out
 have HO0 := Lib.hid HO0.out
 generalize Value.slice (some ⟨W.heap.size, 0, none⟩) 0 0 = v0 at HO0 ⊢
 clear HSZ hb7
 have TM := Lib.hid (show Cells W bm (mcells P M) from H.out.1)
 have TP := Lib.hid (show Cells W bp #[.slice p L.length c] from H.out.2)
 have G := Lib.hid (show Gr w W from G0.out)
 have HM := Lib.hid (HM0.out.grow G.out)
 have HP := Lib.hid (HP0.out.grow G.out)
 clear H G0
 refine (ref_Valid20 W1 P M p c L (HM.out.grow GA.out) HF.out (HP.out.grow GA.out) HK.out).mono ?_
 rintro _ w1 ⟨r, rfl, g1, h⟩
 have GW := Lib.hid (GA.out.trans g1)
 have HO0 := Lib.hid (HO0.out.grow g1)
 rcases h.cases with ⟨rfl, k1⟩ | ⟨rfl, k1⟩
 rotate_left
 ·have HV := Lib.hid k1
  clear h k1
  go_wp2_with fail
  try rw [Exit.noGoto_ret]
  go_ret
  exact ⟨_, rfl, G.out.trans GW.out, .inr ⟨HV.out, HO0.out.read⟩⟩
 have HV := Lib.hid k1
 clear h k1 g1
 have hfew := HF.out.1
 have hL8 : L.length ≤ 24 := by rw [← usOf_len, HV.out.2.1]; omega
 go_wp2_with fail
 go_loopw [5, 6] (fun v i w9 => ∃ (k : Nat) (y : Value), v = y ∧ i = .int .i64 (k : Int) ∧ k ≤ L.length ∧ OwnL w9 W.heap.size 9 1 encS v (linesT M (usOf L) k) ∧ Gr W w9) (fun _ i _ => L.length - (RowKit.intOf i).toNat)
 case atStart => exact ⟨0, _, rfl, rfl, Nat.zero_le _, HO0.out, GW.out⟩
 case round =>
  obtain ⟨k, v, hv0, rfl, hk, ho, hg⟩ := hrel
  have hv0 := hv0.symm
  subst hv0
  have HO := Lib.hid ho
  have GL := Lib.hid hg
  clear ho hg
  have hLM : L.length = M.items.length := by rw [← usOf_len]; exact HV.out.2.1
  have HLL := Lib.hid (show (linesT M (usOf L) k).length ≤ 1000 by rw [linesT_len M _ k (by omega)]; omega)
  have s0 := (TP.out.grow GL.out).at 0 rfl
  generalize hwr1 : wr = W2 at HO GL s0 ⊢
  clear hwr1
  by_cases hlt : k < L.length
  ·have hlt' : (k : Int) < (L.length : Int) := by omega
   have hltM' : (k : Int) < (M.items.length : Int) := by omega
   obtain ⟨b, o, x, hpp, hx, hc⟩ := item_at (HM.out.grow GL.out).items rfl (show k < M.items.length by omega)
   have HIT := Lib.hid hx
   have hnl := (HF.out.2.2.2.2.2.1 x (List.mem_of_getElem? hx)).1
   have y0 := (hc _ (Gr.refl _)).1
   have m5 := mc5 (TM.out.grow GL.out) _ (Gr.refl _)
   rw [hpp] at m5
   obtain ⟨bq, oq, z, hpq, hz, hcz⟩ := row_at (HP.out.rows.grow GL.out) rfl hlt
   have HLX := Lib.hid (show z.us = unitsP (usOf L) ((k : Int) + 1) from (unitsP_at hz).symm)
   have hzl : z.us.length ≤ 1000 := HK.out.2 z.us (List.mem_of_getElem? (usOf_at hz))
   have HON := Lib.hid (HP.out.uns z (List.mem_of_getElem? hz))
   have HUO := Lib.hid (show ∀ u ∈ z.us, UnitOK M x u from by rw [HLX.out]; exact (HV.out.units hx).2.1)
   obtain ⟨pz, cz, lx⟩ := z
   have HLX := Lib.hid (show lx = unitsP (usOf L) ((k : Int) + 1) from HLX.out)
   have HUO := Lib.hid (show ∀ u ∈ lx, UnitOK M x u from HUO.out)
   have HON := Lib.hid (show UnL W (.slice pz lx.length cz) lx from HON.out)
   have hxl : lx.length ≤ 1000 := hzl
   have HC := Lib.hid (show ∀ w', Gr W2 w' → w'.cell? ⟨bq, oq + k, none⟩ = some (.slice pz lx.length cz) from hcz)
   have HPQ := Lib.hid hpq
   obtain ⟨n0, hn0⟩ : ∃ n, x.name ++ [58, 32] = n := ⟨_, rfl⟩
   have hA0 : (⟨x.name.toArray⟩ : ByteArray) ++ ⟨#[58, 32]⟩ = ⟨n0.toArray⟩ := by rw [show (⟨#[58, 32]⟩ : ByteArray) = ⟨[58, 32].toArray⟩ from rfl, str_cat, hn0]
   have hz0 : ¬ 9223372036854775807 < x.name.length + 2 := by omega
   have HN0 := Lib.hid (show n0 = lineJ M x lx 0 from by rw [lineJ_zero, hn0])
   clear hx hc hpp hz hcz hzl hpq hn0
   go_wp2_with fail
   clear s0 m5 y0 hA0 hz0
   go_loopw [7, 8] (fun v i w9 => ∃ j : Nat, v = .string ⟨(lineJ M x lx j).toArray⟩ ∧ i = .int .i64 (j : Int) ∧ j ≤ lx.length ∧ Gr W2 w9) (fun _ i _ => lx.length - (RowKit.intOf i).toNat)
   case atStart => exact ⟨0, by rw [HN0.out], rfl, Nat.zero_le _, Gr.refl _⟩
   case round =>
    obtain ⟨j, rfl, rfl, hj, hg⟩ := hrel
    have GN := Lib.hid hg
    clear hg
    have s0 := (TP.out.grow (GL.out.trans GN.out)).at 0 rfl
    have c0 := HC.out _ GN.out
    rw [HPQ.out] at s0
    by_cases hlj : j < lx.length
    ·have hlj' : (j : Int) < (lx.length : Int) := by omega
     obtain ⟨bu, ou, u, hpu, hu, hcu⟩ := unit_at (HON.out.grow (GL.out.trans GN.out)) rfl hlj
     have HUU := Lib.hid hu
     obtain ⟨hum, hus⟩ := HUO.out u (List.mem_of_getElem? hu)
     obtain ⟨d0, d1⟩ := hcu _ (Gr.refl _)
     rw [hpu] at c0
     clear hu hcu hpu
     have hll := lineJ_len (M := M) HF.out hnl hxl j
     obtain ⟨ma, st⟩ := u
     dsimp only at hum hus d0 d1
     obtain ⟨i, rfl⟩ : ∃ i : Nat, ma = (i : Int) + 1 := ⟨(ma - 1).toNat, by omega⟩
     have hil : i < M.machs.length := by omega
     have hil' : (i : Int) < (M.machs.length : Int) := by omega
     obtain ⟨bi, oi, y, hpi, hy, hcy⟩ := mach_at HM.out.machs rfl hil
     have HMN := Lib.hid (machN_at hy)
     have hyl := HF.out.2.2.2.2.1 y (List.mem_of_getElem? hy)
     have HPI := Lib.hid hpi
     have HYC := Lib.hid (fun w' (g : Gr W w') => (hcy w' g).1)
     have hw1 : IntKind.i64.wrap ((i : Int) + 1 - 1) = (i : Int) := by rw [IntKind.wrap_i64]; omega
     have hw0 : IntKind.i64.wrap (i : Int) = (i : Int) := by rw [IntKind.wrap_i64]; omega
     clear hy hcy hpi hum
     rcases Nat.eq_zero_or_pos j with hj0 | hj0
     ·obtain ⟨n1, hn1⟩ : ∃ n, lineJ M x lx j = n := ⟨_, rfl⟩
      have HJ1 := Lib.hid (show lineJ M x lx j ++ (if j = 0 then [] else [44, 32]) = n1 from by rw [if_pos hj0, List.append_nil, hn1])
      rw [hn1] at hll
      rw [hn1]
      have hj0' : (j : Int) ≤ 0 := by omega
      clear hj0 hn1
      obtain ⟨n2, hn2⟩ : ∃ n, n1 ++ y.name = n := ⟨_, rfl⟩
      have hA2 : (⟨n1.toArray⟩ : ByteArray) ++ ⟨y.name.toArray⟩ = ⟨n2.toArray⟩ := by rw [str_cat, hn2]
      have hz2 : ¬ 9223372036854775807 < n1.length + y.name.length := by omega
      have hb2 : n2.length ≤ 111200 := by rw [← hn2, List.length_append]; omega
      obtain ⟨n3, hn3⟩ : ∃ n, n2 ++ [32] = n := ⟨_, rfl⟩
      have hA3 : (⟨n2.toArray⟩ : ByteArray) ++ ⟨#[32]⟩ = ⟨n3.toArray⟩ := by rw [show (⟨#[32]⟩ : ByteArray) = ⟨[32].toArray⟩ from rfl, str_cat, hn3]
      have hz3 : ¬ 9223372036854775807 < n2.length + 1 := by omega
      have hb3 : n3.length ≤ 111300 := by rw [← hn3, List.length_append, List.length_singleton]; omega
      have HN2 := Lib.hid hn2
      have HN3 := Lib.hid hn3
      clear hn2 hn3
      rcases hus with rfl | rfl | ⟨rfl, _⟩
      ·have B := Cells.new wr #[.int .i64 ((i : Int) + 1), .int .i64 0] 74
       have GN8 := Lib.hid (GN.out.trans B.1)
       have T8 := Lib.hid B.2
       clear B
       go_wp2_with fail
       clear s0 c0 d0 d1 hj0'
       generalize wr.heap.size = b8 at T8 ⊢
       generalize wr.alloc _ = W8 at T8 GN8 ⊢
       have a0 := T8.out.c 0 rfl
       have a1 := T8.out.c 1 rfl
       have m3 := mc3 (TM.out.grow (GL.out.trans GN8.out))
       have y0 : ∀ w', Gr W8 w' → w'.cell? ⟨bi, oi + i * 3, none⟩ = some (.string ⟨y.name.toArray⟩) := fun w' g => HYC.out w' ((GL.out.trans GN8.out).trans g)
       rw [HPI.out] at m3
       have g0 : Gr W8 W8.drew := (Gr.refl _).drew
       refine wp_region_fast [(0, true), (1, true), (2, true), (3, true), (4, true), (5, true), (6, true), (7, true), (8, true), (9, true), (10, true), (12, true), (13, true), (11, false), (14, true), (15, true), (16, true), (17, true)] (by kernel_rfl) (by kernel_rfl) rfl (by kernel_rfl) (fun _ _ d _ _ h => by cases d <;> exact h) ?_
       repeat (refine wpE_readB (v := ?_) g0 rfl rfl (fun w' hg => ?_) (fun K hK => ?_); rotate_left; (go_simp; rfl); go_simp; refine hK _ _ ?_; clear hK K)
       refine wpE_do rfl rfl (fun K hK => ?_)
       go_simp
       have B3 := Cells.new W8.drew #[.string ⟨#[114, 101, 97, 100, 121]⟩, .string ⟨#[108, 111, 97, 100, 105, 110, 103]⟩, .string ⟨#[112, 97, 117, 115, 101, 100]⟩] 9
       refine ⟨fun _ => B3.1, hK _ _ ?_⟩
       clear hK K
       have B3 := Cells.new W8 #[.string ⟨#[114, 101, 97, 100, 121]⟩, .string ⟨#[108, 111, 97, 100, 105, 110, 103]⟩, .string ⟨#[112, 97, 117, 115, 101, 100]⟩] 9
       have B3 := And.intro B3.1.drew (B3.2.grow (Gr.refl _).drew)
       generalize W8.heap.size = b3 at B3 ⊢
       generalize (W8.alloc _).drew = W3 at B3 ⊢
       have q := B3.2.c 0 rfl
       have g3 := Gr.refl W3
       obtain ⟨n4, hn4⟩ : ∃ n, n3 ++ [114, 101, 97, 100, 121] = n := ⟨_, rfl⟩
       have hA4 : (⟨n3.toArray⟩ : ByteArray) ++ ⟨#[114, 101, 97, 100, 121]⟩ = ⟨n4.toArray⟩ := by rw [show (⟨#[114, 101, 97, 100, 121]⟩ : ByteArray) = ⟨[114, 101, 97, 100, 121].toArray⟩ from rfl, str_cat, hn4]
       have hz4 : ¬ 9223372036854775807 < n3.length + 5 := by omega
       repeat (refine wpE_readB (v := ?_) g3 rfl rfl (fun w' hg => ?_) (fun K hK => ?_); rotate_left; (go_simp; rfl); go_simp; refine hK _ _ ?_; clear hK K)
       refine wpE_nil ?_
       have GN9 := Lib.hid (GN8.out.trans B3.1)
       have HRES := Lib.hid (show lineJ M x lx (j + 1) = n4 from by
        rw [lineJ_step HUU.out, HJ1.out]
        dsimp only
        rw [HMN.out, HN2.out, HN3.out]
        exact hn4)
       have hj1 : IntKind.i64.wrap ((j : Int) + 1) = (j : Int) + 1 := by rw [IntKind.wrap_i64]; omega
       clear a0 a1 m3 y0 q g3 g0 B3 hA2 hA3 hA4 hn4
       go_wp2_with fail
       exact ⟨⟨j + 1, by rw [HRES.out], by go_num, by omega, GN9.out⟩, by simp [RowKit.intOf]; omega⟩
      ·have B := Cells.new wr #[.int .i64 ((i : Int) + 1), .int .i64 1] 74
       have GN8 := Lib.hid (GN.out.trans B.1)
       have T8 := Lib.hid B.2
       clear B
       go_wp2_with fail
       clear s0 c0 d0 d1 hj0'
       generalize wr.heap.size = b8 at T8 ⊢
       generalize wr.alloc _ = W8 at T8 GN8 ⊢
       have a0 := T8.out.c 0 rfl
       have a1 := T8.out.c 1 rfl
       have m3 := mc3 (TM.out.grow (GL.out.trans GN8.out))
       have y0 : ∀ w', Gr W8 w' → w'.cell? ⟨bi, oi + i * 3, none⟩ = some (.string ⟨y.name.toArray⟩) := fun w' g => HYC.out w' ((GL.out.trans GN8.out).trans g)
       rw [HPI.out] at m3
       have g0 : Gr W8 W8.drew := (Gr.refl _).drew
       refine wp_region_fast [(0, true), (1, true), (2, true), (3, true), (4, true), (5, true), (6, true), (7, true), (8, true), (9, true), (10, true), (12, true), (13, true), (11, false), (14, true), (15, true), (16, true), (17, true)] (by kernel_rfl) (by kernel_rfl) rfl (by kernel_rfl) (fun _ _ d _ _ h => by cases d <;> exact h) ?_
       repeat (refine wpE_readB (v := ?_) g0 rfl rfl (fun w' hg => ?_) (fun K hK => ?_); rotate_left; (go_simp; rfl); go_simp; refine hK _ _ ?_; clear hK K)
       refine wpE_do rfl rfl (fun K hK => ?_)
       go_simp
       have B3 := Cells.new W8.drew #[.string ⟨#[114, 101, 97, 100, 121]⟩, .string ⟨#[108, 111, 97, 100, 105, 110, 103]⟩, .string ⟨#[112, 97, 117, 115, 101, 100]⟩] 9
       refine ⟨fun _ => B3.1, hK _ _ ?_⟩
       clear hK K
       have B3 := Cells.new W8 #[.string ⟨#[114, 101, 97, 100, 121]⟩, .string ⟨#[108, 111, 97, 100, 105, 110, 103]⟩, .string ⟨#[112, 97, 117, 115, 101, 100]⟩] 9
       have B3 := And.intro B3.1.drew (B3.2.grow (Gr.refl _).drew)
       generalize W8.heap.size = b3 at B3 ⊢
       generalize (W8.alloc _).drew = W3 at B3 ⊢
       have q := B3.2.c 1 rfl
       have g3 := Gr.refl W3
       obtain ⟨n4, hn4⟩ : ∃ n, n3 ++ [108, 111, 97, 100, 105, 110, 103] = n := ⟨_, rfl⟩
       have hA4 : (⟨n3.toArray⟩ : ByteArray) ++ ⟨#[108, 111, 97, 100, 105, 110, 103]⟩ = ⟨n4.toArray⟩ := by rw [show (⟨#[108, 111, 97, 100, 105, 110, 103]⟩ : ByteArray) = ⟨[108, 111, 97, 100, 105, 110, 103].toArray⟩ from rfl, str_cat, hn4]
       have hz4 : ¬ 9223372036854775807 < n3.length + 7 := by omega
       repeat (refine wpE_readB (v := ?_) g3 rfl rfl (fun w' hg => ?_) (fun K hK => ?_); rotate_left; (go_simp; rfl); go_simp; refine hK _ _ ?_; clear hK K)
       refine wpE_nil ?_
       have GN9 := Lib.hid (GN8.out.trans B3.1)
       have HRES := Lib.hid (show lineJ M x lx (j + 1) = n4 from by
        rw [lineJ_step HUU.out, HJ1.out]
        dsimp only
        rw [HMN.out, HN2.out, HN3.out]
        exact hn4)
       have hj1 : IntKind.i64.wrap ((j : Int) + 1) = (j : Int) + 1 := by rw [IntKind.wrap_i64]; omega
       clear a0 a1 m3 y0 q g3 g0 B3 hA2 hA3 hA4 hn4
       go_wp2_with fail
       exact ⟨⟨j + 1, by rw [HRES.out], by go_num, by omega, GN9.out⟩, by simp [RowKit.intOf]; omega⟩
      ·have B := Cells.new wr #[.int .i64 ((i : Int) + 1), .int .i64 2] 74
       have GN8 := Lib.hid (GN.out.trans B.1)
       have T8 := Lib.hid B.2
       clear B
       go_wp2_with fail
       clear s0 c0 d0 d1 hj0'
       generalize wr.heap.size = b8 at T8 ⊢
       generalize wr.alloc _ = W8 at T8 GN8 ⊢
       have a0 := T8.out.c 0 rfl
       have a1 := T8.out.c 1 rfl
       have m3 := mc3 (TM.out.grow (GL.out.trans GN8.out))
       have y0 : ∀ w', Gr W8 w' → w'.cell? ⟨bi, oi + i * 3, none⟩ = some (.string ⟨y.name.toArray⟩) := fun w' g => HYC.out w' ((GL.out.trans GN8.out).trans g)
       rw [HPI.out] at m3
       have g0 : Gr W8 W8.drew := (Gr.refl _).drew
       refine wp_region_fast [(0, true), (1, true), (2, true), (3, true), (4, true), (5, true), (6, true), (7, true), (8, true), (9, true), (10, true), (12, true), (13, true), (11, false), (14, true), (15, true), (16, true), (17, true)] (by kernel_rfl) (by kernel_rfl) rfl (by kernel_rfl) (fun _ _ d _ _ h => by cases d <;> exact h) ?_
       repeat (refine wpE_readB (v := ?_) g0 rfl rfl (fun w' hg => ?_) (fun K hK => ?_); rotate_left; (go_simp; rfl); go_simp; refine hK _ _ ?_; clear hK K)
       refine wpE_do rfl rfl (fun K hK => ?_)
       go_simp
       have B3 := Cells.new W8.drew #[.string ⟨#[114, 101, 97, 100, 121]⟩, .string ⟨#[108, 111, 97, 100, 105, 110, 103]⟩, .string ⟨#[112, 97, 117, 115, 101, 100]⟩] 9
       refine ⟨fun _ => B3.1, hK _ _ ?_⟩
       clear hK K
       have B3 := Cells.new W8 #[.string ⟨#[114, 101, 97, 100, 121]⟩, .string ⟨#[108, 111, 97, 100, 105, 110, 103]⟩, .string ⟨#[112, 97, 117, 115, 101, 100]⟩] 9
       have B3 := And.intro B3.1.drew (B3.2.grow (Gr.refl _).drew)
       generalize W8.heap.size = b3 at B3 ⊢
       generalize (W8.alloc _).drew = W3 at B3 ⊢
       have q := B3.2.c 2 rfl
       have g3 := Gr.refl W3
       obtain ⟨n4, hn4⟩ : ∃ n, n3 ++ [112, 97, 117, 115, 101, 100] = n := ⟨_, rfl⟩
       have hA4 : (⟨n3.toArray⟩ : ByteArray) ++ ⟨#[112, 97, 117, 115, 101, 100]⟩ = ⟨n4.toArray⟩ := by rw [show (⟨#[112, 97, 117, 115, 101, 100]⟩ : ByteArray) = ⟨[112, 97, 117, 115, 101, 100].toArray⟩ from rfl, str_cat, hn4]
       have hz4 : ¬ 9223372036854775807 < n3.length + 6 := by omega
       repeat (refine wpE_readB (v := ?_) g3 rfl rfl (fun w' hg => ?_) (fun K hK => ?_); rotate_left; (go_simp; rfl); go_simp; refine hK _ _ ?_; clear hK K)
       refine wpE_nil ?_
       have GN9 := Lib.hid (GN8.out.trans B3.1)
       have HRES := Lib.hid (show lineJ M x lx (j + 1) = n4 from by
        rw [lineJ_step HUU.out, HJ1.out]
        dsimp only
        rw [HMN.out, HN2.out, HN3.out]
        exact hn4)
       have hj1 : IntKind.i64.wrap ((j : Int) + 1) = (j : Int) + 1 := by rw [IntKind.wrap_i64]; omega
       clear a0 a1 m3 y0 q g3 g0 B3 hA2 hA3 hA4 hn4
       go_wp2_with fail
       exact ⟨⟨j + 1, by rw [HRES.out], by go_num, by omega, GN9.out⟩, by simp [RowKit.intOf]; omega⟩
     ·obtain ⟨n0', hn0'⟩ : ∃ n, lineJ M x lx j = n := ⟨_, rfl⟩
      obtain ⟨n1, hn1⟩ : ∃ n, n0' ++ [44, 32] = n := ⟨_, rfl⟩
      have HJ1 := Lib.hid (show lineJ M x lx j ++ (if j = 0 then [] else [44, 32]) = n1 from by rw [if_neg (by omega), hn0', hn1])
      rw [hn0'] at hll
      rw [hn0']
      have hA1 : (⟨n0'.toArray⟩ : ByteArray) ++ ⟨#[44, 32]⟩ = ⟨n1.toArray⟩ := by rw [show (⟨#[44, 32]⟩ : ByteArray) = ⟨[44, 32].toArray⟩ from rfl, str_cat, hn1]
      have hz1 : ¬ 9223372036854775807 < n0'.length + 2 := by omega
      have hll : n1.length ≤ 111010 := by rw [← hn1, List.length_append]; simp; omega
      have hj0' : (0 : Int) < (j : Int) := by omega
      clear hj0 hn1 hn0'
      obtain ⟨n2, hn2⟩ : ∃ n, n1 ++ y.name = n := ⟨_, rfl⟩
      have hA2 : (⟨n1.toArray⟩ : ByteArray) ++ ⟨y.name.toArray⟩ = ⟨n2.toArray⟩ := by rw [str_cat, hn2]
      have hz2 : ¬ 9223372036854775807 < n1.length + y.name.length := by omega
      have hb2 : n2.length ≤ 111200 := by rw [← hn2, List.length_append]; omega
      obtain ⟨n3, hn3⟩ : ∃ n, n2 ++ [32] = n := ⟨_, rfl⟩
      have hA3 : (⟨n2.toArray⟩ : ByteArray) ++ ⟨#[32]⟩ = ⟨n3.toArray⟩ := by rw [show (⟨#[32]⟩ : ByteArray) = ⟨[32].toArray⟩ from rfl, str_cat, hn3]
      have hz3 : ¬ 9223372036854775807 < n2.length + 1 := by omega
      have hb3 : n3.length ≤ 111300 := by rw [← hn3, List.length_append, List.length_singleton]; omega
      have HN2 := Lib.hid hn2
      have HN3 := Lib.hid hn3
      clear hn2 hn3
      rcases hus with rfl | rfl | ⟨rfl, _⟩
      ·have B := Cells.new wr #[.int .i64 ((i : Int) + 1), .int .i64 0] 74
       have GN8 := Lib.hid (GN.out.trans B.1)
       have T8 := Lib.hid B.2
       clear B
       go_wp2_with fail
       clear s0 c0 d0 d1 hj0'
       generalize wr.heap.size = b8 at T8 ⊢
       generalize wr.alloc _ = W8 at T8 GN8 ⊢
       have a0 := T8.out.c 0 rfl
       have a1 := T8.out.c 1 rfl
       have m3 := mc3 (TM.out.grow (GL.out.trans GN8.out))
       have y0 : ∀ w', Gr W8 w' → w'.cell? ⟨bi, oi + i * 3, none⟩ = some (.string ⟨y.name.toArray⟩) := fun w' g => HYC.out w' ((GL.out.trans GN8.out).trans g)
       rw [HPI.out] at m3
       have g0 : Gr W8 W8.drew := (Gr.refl _).drew
       refine wp_region_fast [(0, true), (1, true), (2, true), (3, true), (4, true), (5, true), (6, true), (7, true), (8, true), (9, true), (10, true), (12, true), (13, true), (11, false), (14, true), (15, true), (16, true), (17, true)] (by kernel_rfl) (by kernel_rfl) rfl (by kernel_rfl) (fun _ _ d _ _ h => by cases d <;> exact h) ?_
       repeat (refine wpE_readB (v := ?_) g0 rfl rfl (fun w' hg => ?_) (fun K hK => ?_); rotate_left; (go_simp; rfl); go_simp; refine hK _ _ ?_; clear hK K)
       refine wpE_do rfl rfl (fun K hK => ?_)
       go_simp
       have B3 := Cells.new W8.drew #[.string ⟨#[114, 101, 97, 100, 121]⟩, .string ⟨#[108, 111, 97, 100, 105, 110, 103]⟩, .string ⟨#[112, 97, 117, 115, 101, 100]⟩] 9
       refine ⟨fun _ => B3.1, hK _ _ ?_⟩
       clear hK K
       have B3 := Cells.new W8 #[.string ⟨#[114, 101, 97, 100, 121]⟩, .string ⟨#[108, 111, 97, 100, 105, 110, 103]⟩, .string ⟨#[112, 97, 117, 115, 101, 100]⟩] 9
       have B3 := And.intro B3.1.drew (B3.2.grow (Gr.refl _).drew)
       generalize W8.heap.size = b3 at B3 ⊢
       generalize (W8.alloc _).drew = W3 at B3 ⊢
       have q := B3.2.c 0 rfl
       have g3 := Gr.refl W3
       obtain ⟨n4, hn4⟩ : ∃ n, n3 ++ [114, 101, 97, 100, 121] = n := ⟨_, rfl⟩
       have hA4 : (⟨n3.toArray⟩ : ByteArray) ++ ⟨#[114, 101, 97, 100, 121]⟩ = ⟨n4.toArray⟩ := by rw [show (⟨#[114, 101, 97, 100, 121]⟩ : ByteArray) = ⟨[114, 101, 97, 100, 121].toArray⟩ from rfl, str_cat, hn4]
       have hz4 : ¬ 9223372036854775807 < n3.length + 5 := by omega
       repeat (refine wpE_readB (v := ?_) g3 rfl rfl (fun w' hg => ?_) (fun K hK => ?_); rotate_left; (go_simp; rfl); go_simp; refine hK _ _ ?_; clear hK K)
       refine wpE_nil ?_
       have GN9 := Lib.hid (GN8.out.trans B3.1)
       have HRES := Lib.hid (show lineJ M x lx (j + 1) = n4 from by
        rw [lineJ_step HUU.out, HJ1.out]
        dsimp only
        rw [HMN.out, HN2.out, HN3.out]
        exact hn4)
       have hj1 : IntKind.i64.wrap ((j : Int) + 1) = (j : Int) + 1 := by rw [IntKind.wrap_i64]; omega
       clear a0 a1 m3 y0 q g3 g0 B3 hA2 hA3 hA4 hn4
       go_wp2_with fail
       exact ⟨⟨j + 1, by rw [HRES.out], by go_num, by omega, GN9.out⟩, by simp [RowKit.intOf]; omega⟩
      ·have B := Cells.new wr #[.int .i64 ((i : Int) + 1), .int .i64 1] 74
       have GN8 := Lib.hid (GN.out.trans B.1)
       have T8 := Lib.hid B.2
       clear B
       go_wp2_with fail
       clear s0 c0 d0 d1 hj0'
       generalize wr.heap.size = b8 at T8 ⊢
       generalize wr.alloc _ = W8 at T8 GN8 ⊢
       have a0 := T8.out.c 0 rfl
       have a1 := T8.out.c 1 rfl
       have m3 := mc3 (TM.out.grow (GL.out.trans GN8.out))
       have y0 : ∀ w', Gr W8 w' → w'.cell? ⟨bi, oi + i * 3, none⟩ = some (.string ⟨y.name.toArray⟩) := fun w' g => HYC.out w' ((GL.out.trans GN8.out).trans g)
       rw [HPI.out] at m3
       have g0 : Gr W8 W8.drew := (Gr.refl _).drew
       refine wp_region_fast [(0, true), (1, true), (2, true), (3, true), (4, true), (5, true), (6, true), (7, true), (8, true), (9, true), (10, true), (12, true), (13, true), (11, false), (14, true), (15, true), (16, true), (17, true)] (by kernel_rfl) (by kernel_rfl) rfl (by kernel_rfl) (fun _ _ d _ _ h => by cases d <;> exact h) ?_
       repeat (refine wpE_readB (v := ?_) g0 rfl rfl (fun w' hg => ?_) (fun K hK => ?_); rotate_left; (go_simp; rfl); go_simp; refine hK _ _ ?_; clear hK K)
       refine wpE_do rfl rfl (fun K hK => ?_)
       go_simp
       have B3 := Cells.new W8.drew #[.string ⟨#[114, 101, 97, 100, 121]⟩, .string ⟨#[108, 111, 97, 100, 105, 110, 103]⟩, .string ⟨#[112, 97, 117, 115, 101, 100]⟩] 9
       refine ⟨fun _ => B3.1, hK _ _ ?_⟩
       clear hK K
       have B3 := Cells.new W8 #[.string ⟨#[114, 101, 97, 100, 121]⟩, .string ⟨#[108, 111, 97, 100, 105, 110, 103]⟩, .string ⟨#[112, 97, 117, 115, 101, 100]⟩] 9
       have B3 := And.intro B3.1.drew (B3.2.grow (Gr.refl _).drew)
       generalize W8.heap.size = b3 at B3 ⊢
       generalize (W8.alloc _).drew = W3 at B3 ⊢
       have q := B3.2.c 1 rfl
       have g3 := Gr.refl W3
       obtain ⟨n4, hn4⟩ : ∃ n, n3 ++ [108, 111, 97, 100, 105, 110, 103] = n := ⟨_, rfl⟩
       have hA4 : (⟨n3.toArray⟩ : ByteArray) ++ ⟨#[108, 111, 97, 100, 105, 110, 103]⟩ = ⟨n4.toArray⟩ := by rw [show (⟨#[108, 111, 97, 100, 105, 110, 103]⟩ : ByteArray) = ⟨[108, 111, 97, 100, 105, 110, 103].toArray⟩ from rfl, str_cat, hn4]
       have hz4 : ¬ 9223372036854775807 < n3.length + 7 := by omega
       repeat (refine wpE_readB (v := ?_) g3 rfl rfl (fun w' hg => ?_) (fun K hK => ?_); rotate_left; (go_simp; rfl); go_simp; refine hK _ _ ?_; clear hK K)
       refine wpE_nil ?_
       have GN9 := Lib.hid (GN8.out.trans B3.1)
       have HRES := Lib.hid (show lineJ M x lx (j + 1) = n4 from by
        rw [lineJ_step HUU.out, HJ1.out]
        dsimp only
        rw [HMN.out, HN2.out, HN3.out]
        exact hn4)
       have hj1 : IntKind.i64.wrap ((j : Int) + 1) = (j : Int) + 1 := by rw [IntKind.wrap_i64]; omega
       clear a0 a1 m3 y0 q g3 g0 B3 hA2 hA3 hA4 hn4
       go_wp2_with fail
       exact ⟨⟨j + 1, by rw [HRES.out], by go_num, by omega, GN9.out⟩, by simp [RowKit.intOf]; omega⟩
      ·have B := Cells.new wr #[.int .i64 ((i : Int) + 1), .int .i64 2] 74
       have GN8 := Lib.hid (GN.out.trans B.1)
       have T8 := Lib.hid B.2
       clear B
       go_wp2_with fail
       clear s0 c0 d0 d1 hj0'
       generalize wr.heap.size = b8 at T8 ⊢
       generalize wr.alloc _ = W8 at T8 GN8 ⊢
       have a0 := T8.out.c 0 rfl
       have a1 := T8.out.c 1 rfl
       have m3 := mc3 (TM.out.grow (GL.out.trans GN8.out))
       have y0 : ∀ w', Gr W8 w' → w'.cell? ⟨bi, oi + i * 3, none⟩ = some (.string ⟨y.name.toArray⟩) := fun w' g => HYC.out w' ((GL.out.trans GN8.out).trans g)
       rw [HPI.out] at m3
       have g0 : Gr W8 W8.drew := (Gr.refl _).drew
       refine wp_region_fast [(0, true), (1, true), (2, true), (3, true), (4, true), (5, true), (6, true), (7, true), (8, true), (9, true), (10, true), (12, true), (13, true), (11, false), (14, true), (15, true), (16, true), (17, true)] (by kernel_rfl) (by kernel_rfl) rfl (by kernel_rfl) (fun _ _ d _ _ h => by cases d <;> exact h) ?_
       repeat (refine wpE_readB (v := ?_) g0 rfl rfl (fun w' hg => ?_) (fun K hK => ?_); rotate_left; (go_simp; rfl); go_simp; refine hK _ _ ?_; clear hK K)
       refine wpE_do rfl rfl (fun K hK => ?_)
       go_simp
       have B3 := Cells.new W8.drew #[.string ⟨#[114, 101, 97, 100, 121]⟩, .string ⟨#[108, 111, 97, 100, 105, 110, 103]⟩, .string ⟨#[112, 97, 117, 115, 101, 100]⟩] 9
       refine ⟨fun _ => B3.1, hK _ _ ?_⟩
       clear hK K
       have B3 := Cells.new W8 #[.string ⟨#[114, 101, 97, 100, 121]⟩, .string ⟨#[108, 111, 97, 100, 105, 110, 103]⟩, .string ⟨#[112, 97, 117, 115, 101, 100]⟩] 9
       have B3 := And.intro B3.1.drew (B3.2.grow (Gr.refl _).drew)
       generalize W8.heap.size = b3 at B3 ⊢
       generalize (W8.alloc _).drew = W3 at B3 ⊢
       have q := B3.2.c 2 rfl
       have g3 := Gr.refl W3
       obtain ⟨n4, hn4⟩ : ∃ n, n3 ++ [112, 97, 117, 115, 101, 100] = n := ⟨_, rfl⟩
       have hA4 : (⟨n3.toArray⟩ : ByteArray) ++ ⟨#[112, 97, 117, 115, 101, 100]⟩ = ⟨n4.toArray⟩ := by rw [show (⟨#[112, 97, 117, 115, 101, 100]⟩ : ByteArray) = ⟨[112, 97, 117, 115, 101, 100].toArray⟩ from rfl, str_cat, hn4]
       have hz4 : ¬ 9223372036854775807 < n3.length + 6 := by omega
       repeat (refine wpE_readB (v := ?_) g3 rfl rfl (fun w' hg => ?_) (fun K hK => ?_); rotate_left; (go_simp; rfl); go_simp; refine hK _ _ ?_; clear hK K)
       refine wpE_nil ?_
       have GN9 := Lib.hid (GN8.out.trans B3.1)
       have HRES := Lib.hid (show lineJ M x lx (j + 1) = n4 from by
        rw [lineJ_step HUU.out, HJ1.out]
        dsimp only
        rw [HMN.out, HN2.out, HN3.out]
        exact hn4)
       have hj1 : IntKind.i64.wrap ((j : Int) + 1) = (j : Int) + 1 := by rw [IntKind.wrap_i64]; omega
       clear a0 a1 m3 y0 q g3 g0 B3 hA2 hA3 hA4 hn4
       go_wp2_with fail
       exact ⟨⟨j + 1, by rw [HRES.out], by go_num, by omega, GN9.out⟩, by simp [RowKit.intOf]; omega⟩
    ·obtain rfl : j = lx.length := by omega
     have hk1 : IntKind.i64.wrap ((k : Int) + 1) = (k : Int) + 1 := by rw [IntKind.wrap_i64]; omega
     have hst := linesT_step (X := usOf L) HIT.out
     rw [← HLX.out] at hst
     have HST := Lib.hid hst
     have GX := Lib.hid (GL.out.trans GN.out)
     have HO := Lib.hid (HO.out.grow GN.out)
     clear hst
     have hll := lineJ_len (M := M) HF.out hnl hxl lx.length
     by_cases hem : lx = []
     ·subst hem
      obtain ⟨n1, hn1⟩ : ∃ n, lineJ M x [] 0 = n := ⟨_, rfl⟩
      obtain ⟨n2, hn2⟩ : ∃ n, n1 ++ [110, 111, 116, 104, 105, 110, 103] = n := ⟨_, rfl⟩
      have HLT := Lib.hid (show lineT M x [] = n2 from by rw [lineJ_end, if_pos rfl, hn1, hn2])
      rw [List.length_nil] at *
      rw [hn1] at hll ⊢
      have hA1 : (⟨n1.toArray⟩ : ByteArray) ++ ⟨#[110, 111, 116, 104, 105, 110, 103]⟩ = ⟨n2.toArray⟩ := by rw [show (⟨#[110, 111, 116, 104, 105, 110, 103]⟩ : ByteArray) = ⟨[110, 111, 116, 104, 105, 110, 103].toArray⟩ from rfl, str_cat, hn2]
      have hz1 : ¬ 9223372036854775807 < n1.length + 7 := by omega
      clear hn1 hn2
      go_wp2_with (at_builtin; refine Hold.hold ?_)
      clear s0 c0
      have B8 := SlL.new wr 9 encS_len [n2] #[.string ⟨n2.toArray⟩] 1 rfl rfl (by decide)
      generalize wr.heap.size = b9 at B8 ⊢
      generalize wr.alloc _ = w8 at B8 ⊢
      obtain ⟨g8, t8⟩ := B8
      refine Hold.go ?_
      refine wpList_appendL rfl _ _ 22 9 _ 16 rfl Tryz.underlying22 str_info rfl (by decide) encS_len encS_one W.heap.size _ _ _ [n2] rfl (HO.out.grow g8) rfl t8 (by have := HLL.out; simp only [List.length_singleton]; omega) (by have := HLL.out; simp only [List.length_singleton]; omega) ((GX.out.trans g8).size) ?_
      intro v' w9 ho9 k9
      have HO9 := Lib.hid ho9
      have G9 := Lib.hid ((HO.out.grow g8).gr (GX.out.trans g8) k9)
      clear ho9 k9 g8 t8
      go_wp2_with fail
      go_simp
      exact ⟨⟨k + 1, by omega, by omega, by rw [HST.out, HLT.out]; exact HO9.out, G9.out⟩, by simp [RowKit.intOf]; omega⟩
     ·have hne0 : ((lx.length : Int) == 0) = false := by simp; exact hem
      obtain ⟨n2, hn2⟩ : ∃ n, lineJ M x lx lx.length = n := ⟨_, rfl⟩
      have HLT := Lib.hid (show lineT M x lx = n2 from by rw [lineJ_end, if_neg hem, hn2])
      rw [hn2] at hll ⊢
      clear hn2 hem
      go_wp2_with (at_builtin; refine Hold.hold ?_)
      clear s0 c0
      have B8 := SlL.new wr 9 encS_len [n2] #[.string ⟨n2.toArray⟩] 1 rfl rfl (by decide)
      generalize wr.heap.size = b9 at B8 ⊢
      generalize wr.alloc _ = w8 at B8 ⊢
      obtain ⟨g8, t8⟩ := B8
      refine Hold.go ?_
      refine wpList_appendL rfl _ _ 22 9 _ 16 rfl Tryz.underlying22 str_info rfl (by decide) encS_len encS_one W.heap.size _ _ _ [n2] rfl (HO.out.grow g8) rfl t8 (by have := HLL.out; simp only [List.length_singleton]; omega) (by have := HLL.out; simp only [List.length_singleton]; omega) ((GX.out.trans g8).size) ?_
      intro v' w9 ho9 k9
      have HO9 := Lib.hid ho9
      have G9 := Lib.hid ((HO.out.grow g8).gr (GX.out.trans g8) k9)
      clear ho9 k9 g8 t8
      go_wp2_with fail
      go_simp
      exact ⟨⟨k + 1, by omega, by omega, by rw [HST.out, HLT.out]; exact HO9.out, G9.out⟩, by simp [RowKit.intOf]; omega⟩
  ·obtain rfl : k = L.length := by omega
   have HO := Lib.hid (show StrL W2 v (linesT M (usOf L) M.items.length) from by rw [← hLM]; exact HO.out.read)
   go_wp2_with fail
   go_ret
   exact ⟨_, rfl, G.out.trans GL.out, .inl ⟨HV.out, HO.out⟩⟩
end Go.Proofs.YtchpbaaabnkkkaaGreatDoor

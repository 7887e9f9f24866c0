/-
 placement.Initial, exodusref20.Initial.
-/
import Derived.Test.YtchpbaaabnkkkaaGreatDoorPlH
import Derived.Test.YtchpbaaabnkkkaaGreatDoorPlq
import Derived.Test.YtchpbaaabnkkkaaGreatDoorPlB
namespace Go.Proofs.YtchpbaaabnkkkaaGreatDoor
open Go.RowKit Go.Lib Lex
set_option linter.unusedVariables false
set_option linter.unusedSimpArgs false

def unit0 (n : Int) : UnitM := ⟨n, 0⟩
def initP (M : Mdl) : Plc := M.items.map fun x => x.on.map unit0
theorem init_clo (w : World) (n : Int) : Calls Tryz.prog 50 #[.int .i64 n] w (Ret w fun r _ => r = .agg #[.int .i64 n, .int .i64 0]) := by
 have B := Cells.new w #[.int .i64 n, .int .i64 0] 74
 have HB := Lib.hid B
 have y0 := B.2.at 0 rfl
 have y1 := B.2.at 1 rfl
 clear B
 go_enter Tryz.func50, Tryz.ntmps50
 go_wp2_with fail
 refine bodyPost_ret (by simp [results, Tryz.results50, go_sem, y0, y1]; rfl) rfl ?_
 exact ⟨_, rfl, HB.out.1, rfl⟩
set_option maxRecDepth 100000 in
set_option maxHeartbeats 800000 in
theorem mapped_init (w : World) (p : Option Addr) (n c : Nat) (l : List Int) (hl : IntL w (.slice p n c) l) (hn : l.length = n) (hb : n ≤ 1000) :
  Calls Tryz.prog 49 #[.slice p n c, .func (.func 50) #[] #[]] w (Ret w fun r w' => OwnU w' w.heap.size r (l.map unit0)) := by
 have HL := Lib.hid hl
 have HN := Lib.hid hn
 clear hl hn
 go_enter Tryz.func49, Tryz.ntmps49
 go_wp2_with fail
 go_loopw [5, 10] (fun v i w9 => ∃ (k : Nat) (x : Value), v = x ∧ i = .int .i64 (k : Int) ∧ k ≤ n ∧ OwnU w9 w.heap.size v ((l.take k).map unit0) ∧ Gr w w9) (fun _ i _ => n - (RowKit.intOf i).toNat)
 case atStart => exact ⟨0, _, rfl, rfl, Nat.zero_le _, OwnL.nil _ _ _, Gr.refl _⟩
 case round =>
  obtain ⟨k, v, rfl, rfl, hk, ho, hg⟩ := hrel
  have HO := Lib.hid ho
  have GL := Lib.hid hg
  clear ho hg
  by_cases hlt : k < n
  ·have hlt' : (k : Int) < (n : Int) := by omega
   obtain ⟨b, o, x, rfl, hx, hc⟩ := int_at (HL.out.grow GL.out) HN.out hlt
   have c0 := hc _ (Gr.refl _)
   have HF := Lib.hid (map_take unit0 hx)
   have HLE := Lib.hid (show ((l.take k).map unit0).length ≤ 1000 from by rw [List.length_map, List.length_take]; omega)
   clear hx hc
   obtain ⟨pv, cv, hv, _, _⟩ := HO.out.read.parts
   generalize ((l.take k).map unit0).length = N at hv
   subst hv
   go_wp2_with fail
   clear c0
   refine (init_clo wr x).mono ?_
   rintro _ w2 ⟨_, rfl, g2, rfl⟩
   have HO := Lib.hid (HO.out.grow g2)
   have GL := Lib.hid (GL.out.trans g2)
   clear g2
   go_wp2_with (at_builtin; refine Hold.hold ?_)
   have B8 := SlL.new w2 74 encU_len [unit0 x] #[.int .i64 x, .int .i64 0] 1 rfl rfl (by decide)
   generalize w2.heap.size = b9 at B8 ⊢
   generalize w2.alloc _ = w8 at B8 ⊢
   obtain ⟨g8, t8⟩ := B8
   refine Hold.go ?_
   refine wpList_appendL rfl _ _ 71 74 _ 16 rfl Tryz.underlying71 unit_info rfl (by decide) encU_len encU_one w.heap.size _ _ _ [unit0 x] rfl (HO.out.grow g8) rfl t8 (by have := HLE.out; simp only [List.length_singleton]; omega) (by have := HLE.out; simp only [List.length_singleton]; omega) ((GL.out.trans g8).size) ?_
   intro v' w9 ho9 k9
   have HO9 := Lib.hid ho9
   have G9 := Lib.hid ((HO.out.grow g8).gr (GL.out.trans g8) k9)
   clear ho9 k9 g8 t8
   go_wp2_with fail
   exact ⟨⟨k + 1, _, rfl, by go_num, by omega, by rw [HF.out]; exact HO9.out, G9.out⟩, by simp [RowKit.intOf]; omega⟩
  ·obtain rfl : k = n := by omega
   have h9 := HO.out
   rw [List.take_of_length_le (by rw [HN.out]; exact Nat.le_refl _)] at h9
   have HO := Lib.hid h9
   clear h9
   go_wp2_with fail
   go_ret
   exact ⟨_, rfl, GL.out, HO.out⟩
def InitI (w : World) (base bm b2 b3 : Nat) (ms : Array Value) (X : Plc) (w9 : World) : Prop := ∃ v L', Cells w9 bm ms ∧ Cells w9 b2 #[.slice none 0 0] ∧ Cells w9 b3 #[v] ∧ PlcOwn w9 base v L' ∧ usOf L' = X ∧ Gr w w9 ∧ base ≤ w9.heap.size
theorem InitI.push {w w8 w9 : World} {base bm b2 b3 : Nat} {ms : Array Value} {v v' : Value} {L' : List RowU} {y : RowU} (hbm : bm < base) (hb2 : b2 < base) (hb3 : b3 < base) (hw3 : ¬ b3 < w.heap.size) (hne1 : bm ≠ b3) (hne2 : b2 ≠ b3) (hwb : w.heap.size ≤ base)
  (h1 : Cells w8 bm ms) (h2 : Cells w8 b2 #[.slice none 0 0]) (h3 : Cells w8 b3 #[v]) (h4 : PlcOwn w8 base v L') (h7 : Gr w w8) (h8 : base ≤ w8.heap.size)
  (hy : OwnU w8 base (rowV y) y.us) (hoff : ∀ z ∈ L', Off2 (rowV z) (rowV y)) (hvy : Off2 v (rowV y)) (ho : OwnR w9 base v' (L' ++ [y])) (hg : w8.grownBy w9 v.ownBlock) (hb : v'.ownBlock = v.ownBlock ∨ v'.ownBlock = some w8.heap.size) :
  InitI w base bm b2 b3 ms (usOf L' ++ [y.us]) (w9.setCell ⟨b3, 0, none⟩ v') := by
 have hne : ∀ b, b < base → some b ≠ v.ownBlock := fun b hb e => by have := (h4.rows.lt b e.symm).1; omega
 have hu := upd_set w9 b3 0 v'
 refine ⟨v', L' ++ [y], ((h1.grown hg (hne bm hbm)).upd hu hne1), ((h2.grown hg (hne b2 hb2)).upd hu hne2), ?_, ?_, ?_, ?_, ?_⟩
 ·have := (h3.grown hg (hne b3 hb3)).set 0 v'
  simpa using this
 ·exact (PlcOwn.push (w := w8) h4 hy hoff hvy ho hg hb).other hb3
 ·unfold usOf; simp
 ·exact (OwnL.gr (a := w) (h4.rows.mono hwb) h7 hg).set hw3 v'
 ·have := hg.size
  simp [World.setCell]
  omega
def initU (l : List ItemM) : Plc := l.map fun x => x.on.map unit0
theorem initU_take {M : Mdl} {k : Nat} {x : ItemM} (h : M.items[k]? = some x) : initU (M.items.take (k + 1)) = initU (M.items.take k) ++ [x.on.map unit0] := by
 unfold initU
 exact map_take _ h
theorem initU_few {M : Mdl} (h : Few M) (k : Nat) : ∀ l ∈ initU (M.items.take k), l.length ≤ 1000 := fun l hl => by
 unfold initU at hl
 obtain ⟨x, hx, rfl⟩ := List.mem_map.1 hl
 have := (h.2.2.2.2.2.1 x (List.mem_of_mem_take hx)).2
 rw [List.length_map]; omega
def PlcGets (X : Plc) (r : Value) (w' : World) : Prop := ∃ p' c' L', r = plcV p' c' L' ∧ PlcAt w' p' c' L' ∧ usOf L' = X
set_option maxRecDepth 100000 in
set_option maxHeartbeats 1600000 in
theorem plc_Initial (w : World) (P : Ptrs) (M : Mdl) (hm : MdlAt w P M) (hf : Few M) :
  Calls Tryz.prog 14 #[.agg (mcells P M)] w (Ret w fun r w' => PlcGets (initP M) r w') := by
 have HM0 := Lib.hid hm
 have HF := Lib.hid hf
 have B0 := Cells.new w (mcells P M) 29
 have B1 := Cells.new (w.alloc (.cells (mcells P M) 29)) #[.slice none 0 0] 34
 have B2 := Cells.new ((w.alloc (.cells (mcells P M) 29)).alloc (.cells #[.slice none 0 0] 34)) #[.slice none 0 0] 34
 simp only [World.size_alloc] at B1 B2
 have m5 := mc5 B0.2 _ (B1.1.trans B2.1)
 have H := Lib.hid (show _ ∧ _ ∧ _ ∧ _ from ⟨B0.1.trans (B1.1.trans B2.1), B0.2.grow (B1.1.trans B2.1), B1.2.grow B2.1, B2.2⟩)
 skip
 clear B0 B1 B2 hm hf
 obtain ⟨p0, c0, p1, c1, p2, c2, p3, c3, p4, c4, p5, c5, p6, c6⟩ := P
 unfold mcells at H m5 ⊢
 dsimp only at m5
 go_enter Tryz.func14, Tryz.ntmps14
 go_wp2_with fail
 clear m5
 skip
 generalize hb3 : w.heap.size + 1 + 1 = b3 at H ⊢
 generalize hb2 : w.heap.size + 1 = b2 at H ⊢
 generalize hbm : w.heap.size = bm at H ⊢
 generalize ((w.alloc _).alloc _).alloc _ = W at H ⊢
 have HB := Lib.hid (show bm < W.heap.size ∧ b2 < W.heap.size ∧ b3 < W.heap.size ∧ ¬ b3 < w.heap.size ∧ ¬ b2 < w.heap.size ∧ bm ≠ b3 ∧ b2 ≠ b3 ∧ w.heap.size ≤ W.heap.size from by
  have := H.out.2.2.2.lt
  have := H.out.2.1.lt
  have := H.out.2.2.1.lt
  have := H.out.1.size
  refine ⟨by omega, by omega, by omega, by omega, by omega, by omega, by omega, by omega⟩)
 have HI := Lib.hid (show InitI w W.heap.size bm b2 b3 (mcells ⟨p0, c0, p1, c1, p2, c2, p3, c3, p4, c4, p5, c5, p6, c6⟩ M) [] W from ⟨.slice none 0 0, [], H.out.2.1, H.out.2.2.1, H.out.2.2.2, ⟨OwnL.nil _ _ _, by simp, by simp [ApartL]⟩, rfl, H.out.1, Nat.le_refl _⟩)
 clear hb3 hb2 hbm H
 have hfew := HF.out.1
 go_loopw [9] (fun i w9 => ∃ k : Nat, i = .int .i64 (k : Int) ∧ k ≤ M.items.length ∧ InitI w W.heap.size bm b2 b3 (mcells ⟨p0, c0, p1, c1, p2, c2, p3, c3, p4, c4, p5, c5, p6, c6⟩ M) (initU (M.items.take k)) w9) (fun i _ => M.items.length - (RowKit.intOf i).toNat)
 case atStart => exact ⟨0, rfl, Nat.zero_le _, by simpa [initU] using HI.out⟩
 case round =>
  clear HI
  obtain ⟨k, rfl, hk, v, L', h1, h2, h3, h4, h6, h7, h8⟩ := hrel
  have H1 := Lib.hid h1
  have H2 := Lib.hid h2
  have H3 := Lib.hid h3
  have H4 := Lib.hid h4
  have H6 := Lib.hid h6
  have H7 := Lib.hid h7
  have H8 := Lib.hid h8
  have HM := Lib.hid (HM0.out.grow h7)
  have HLL := Lib.hid (show L'.length = k by rw [← usOf_len, h6]; unfold initU; rw [List.length_map, List.length_take]; omega)
  clear h1 h2 h3 h4 h6 h7 h8
  by_cases hlt : k < M.items.length
  ·have hlt' : (k : Int) < (M.items.length : Int) := by omega
   obtain ⟨b, o, x, rfl, hx, hc⟩ := item_at HM.out.items rfl hlt
   have HX := Lib.hid hx
   obtain ⟨y0, y1, y2, y3, y4, y5, y6⟩ := hc _ (Gr.refl _)
   have hol := (HF.out.2.2.2.2.2.1 x (List.mem_of_getElem? hx)).2
   have B := Cells.new wr (itemV x) 51
   unfold itemV at B
   have HBB := Lib.hid B
   have HST := Lib.hid (initU_take hx)
   clear B hx hc
   go_wp2_with fail
   clear y0 y1 y2 y3 y4 y5 y6
   generalize wr.heap.size = b5 at HBB ⊢
   generalize wr.alloc _ = W5 at HBB ⊢
   have g5 := HBB.out.1
   have T5 := Lib.hid (HBB.out.2)
   have G := Lib.hid H7.out
   have H8 := Lib.hid (Nat.le_trans H8.out g5.size)
   have G := Lib.hid (G.out.trans g5)
   have H1 := Lib.hid (H1.out.grow g5)
   have H2 := Lib.hid (H2.out.grow g5)
   have H3 := Lib.hid (H3.out.grow g5)
   have H4 := Lib.hid (H4.out.grow g5)
   have HM := Lib.hid (HM.out.grow g5)
   clear g5
   clear HBB H7
   have g0 : Gr W5 W5.drew := (Gr.refl _).drew
   have o0 := H3.out.c 0 rfl
   have t6 := T5.out.c 6 rfl
   refine Stij.wp_region_fast [(0, true), (1, true), (2, true), (3, true), (4, false), (5, false), (6, false), (7, true), (8, false)] (by kernel_rfl) (by kernel_rfl) rfl (by kernel_rfl) (fun _ _ d _ _ h => by cases d <;> exact h) ?_
   repeat (refine Stij.wpE_readB (v := ?_) g0 rfl rfl (fun w' hg => ?_) (fun K hK => ?_); rotate_left; (go_simp; rfl); go_simp; refine hK _ _ ?_; clear hK K)
   clear o0 t6
   have G := Lib.hid (G.out.trans g0)
   have H1 := Lib.hid (H1.out.grow g0)
   have H2 := Lib.hid (H2.out.grow g0)
   have H3 := Lib.hid (H3.out.grow g0)
   have H4 := Lib.hid (H4.out.grow g0)
   have HM := Lib.hid (HM.out.grow g0)
   have H8 := Lib.hid (Nat.le_trans H8.out g0.size)
   clear g0
   generalize W5.drew = W6 at G H1 H2 H3 H4 HM H8 ⊢
   refine Stij.wpE_fn (args := ?_) rfl rfl rfl rfl rfl rfl (by kernel_rfl) (by kernel_rfl) ?_ (fun K hK => ?_)
   rotate_left
   ·go_simp; rfl
   refine (mapped_init W6 x.onP x.on.length x.onC x.on (HM.out.ons x (List.mem_of_getElem? HX.out)) rfl (by omega)).mono ?_
   rintro _ w7 ⟨_, rfl, g7, hoy⟩
   have hoy := hoy
   obtain ⟨py, cy, hvy, _, _⟩ := hoy.read.parts
   obtain ⟨N, hN⟩ : ∃ N, (x.on.map unit0).length = N := ⟨_, rfl⟩
   rw [hN] at hvy
   subst hvy
   have HOY := Lib.hid (show OwnU w7 W6.heap.size (rowV ⟨py, cy, x.on.map unit0⟩) (x.on.map unit0) from by
    show OwnU w7 _ (.slice py (x.on.map unit0).length cy) _
    rw [hN]; exact hoy)
   have HNN := Lib.hid hN
   refine ⟨_, rfl, g7, ?_⟩
   go_simp
   refine hK _ _ ?_
   clear hK K hoy hN
   have hoff : ∀ z ∈ L', Off2 (rowV z) (rowV ⟨py, cy, x.on.map unit0⟩) := fun z hz k hk e => by
    have h1 := ((H4.out.uns z hz).lt k hk).2
    have h2 := (HOY.out.lt k e).1
    omega
   have hvy : Off2 v (rowV ⟨py, cy, x.on.map unit0⟩) := fun k hk e => by
    have h1 := (H4.out.rows.lt k hk).2
    have h2 := (HOY.out.lt k e).1
    omega
   have HOF := Lib.hid (And.intro hoff hvy)
   clear hoff hvy
   have HOY := Lib.hid (HOY.out.mono (base' := W.heap.size) H8.out)
   have G := Lib.hid (G.out.trans g7)
   have H1 := Lib.hid (H1.out.grow g7)
   have H2 := Lib.hid (H2.out.grow g7)
   have H3 := Lib.hid (H3.out.grow g7)
   have H4 := Lib.hid (H4.out.grow g7)
   have H8 := Lib.hid (Nat.le_trans H8.out g7.size)
   clear g7
   refine Stij.wpE_do rfl rfl (fun K hK => ?_)
   go_simp
   have B8 := SlL.new w7 71 encRU_len [(⟨py, cy, x.on.map unit0⟩ : RowU)] #[.slice py N cy] 1 (by rw [← HNN.out]; rfl) rfl (by decide)
   refine ⟨fun _ => B8.1, hK _ _ ?_⟩
   clear hK K
   generalize hb8 : w7.heap.size = b8 at B8 ⊢
   generalize w7.alloc _ = w8 at B8 ⊢
   obtain ⟨g8, t8⟩ := B8
   have G := Lib.hid (G.out.trans g8)
   have H1 := Lib.hid (H1.out.grow g8)
   have H2 := Lib.hid (H2.out.grow g8)
   have H3 := Lib.hid (H3.out.grow g8)
   have H4 := Lib.hid (H4.out.grow g8)
   have H8 := Lib.hid (Nat.le_trans H8.out g8.size)
   have HOY := Lib.hid (HOY.out.grow g8)
   refine Stij.wpE_do rfl rfl (fun K hK => ?_)
   refine wp_appendB _ _ 32 71 _ 24 rfl Tryz.underlying32 urow_info rfl (by decide) encRU_len encRU_one W.heap.size v _ L' [(⟨py, cy, x.on.map unit0⟩ : RowU)] rfl H4.out.rows rfl t8 (by have := HLL.out; simp; omega) (by have := HLL.out; simp; omega) H8.out (by simp) ?_
   intro v' w9 ho9 k9 hblk
   refine ⟨fun h => Bool.noConfusion h, hK _ _ ?_⟩
   clear hK K
   obtain ⟨p9, c9, hv9, _, _⟩ := (OwnL.read ho9).parts
   obtain ⟨N9, hN9⟩ : ∃ N, (L' ++ [(⟨py, cy, x.on.map unit0⟩ : RowU)]).length = N := ⟨_, rfl⟩
   rw [hN9] at hv9
   subst hv9
   clear hN9
   obtain ⟨c1', c2', c3', c4', c5', c6', c7', c8'⟩ := HB.out
   have hout := InitI.push (y := ⟨py, cy, x.on.map unit0⟩) c1' c2' c3' c4' c6' c7' c8' H1.out H2.out H3.out H4.out G.out H8.out HOY.out HOF.out.1 HOF.out.2 ho9 k9 hblk
   have hne3 : some b3 ≠ v.ownBlock := fun e => by have := (H4.out.rows.lt b3 e.symm).1; omega
   have T9 := H3.out.grown k9 hne3
   have d0 := T9.at 0 rfl
   have f0 := Cells.f T9 0
   have HOUT := Lib.hid hout
   have g9 := Gr.refl w9
   clear hout hb8 T9 hblk hne3 k9 ho9 g8 t8 c1' c2' c3' c4' c5' c6' c7' c8'
   repeat (refine Stij.wpE_readB (v := ?_) g9 rfl rfl (fun w' hg => ?_) (fun K hK => ?_); rotate_left; (go_simp; rfl); go_simp; refine hK _ _ ?_; clear hK K)
   refine Stij.wpE_do rfl rfl (fun K hK => ?_)
   go_simp
   refine ⟨fun h => Bool.noConfusion h, hK _ _ ?_⟩
   clear hK K
   refine Stij.wpE_nil ?_
   clear d0 f0 g9
   generalize w9.setCell _ _ = W9 at HOUT ⊢
   go_wp2_with fail
   refine ⟨⟨k + 1, by go_num, by omega, ?_⟩, by simp [RowKit.intOf]; omega⟩
   rw [HST.out, ← H6.out]
   exact HOUT.out
  ·obtain rfl : k = M.items.length := by omega
   obtain ⟨c1', c2', c3', c4', c5', c6', c7', c8'⟩ := HB.out
   obtain ⟨pv, cv, rfl⟩ := H4.out.at
   have o0 := H3.out.at 0 rfl
   have q0 := H2.out.at 0 rfl
   have q1 := Cells.f H2.out 0
   go_wp2_with fail
   clear o0 q0 q1
   have hN : PlcNew (wr.setCell ⟨b2, 0, none⟩ (.slice pv L'.length cv)) W.heap.size pv cv L' := (H4.out.new (by have := HLL.out; omega) (fun x hx => by
    have h := initU_few HF.out M.items.length x.us (by rw [← H6.out]; exact List.mem_map_of_mem hx)
    omega)).other c2'
   have hT := H2.out.set 0 (.slice pv L'.length cv)
   have hG := H7.out.set c5' (i := 0) (.slice pv L'.length cv)
   generalize wr.setCell _ _ = W9 at hN hT hG ⊢
   have y0 := hT.at 0 rfl
   refine bodyPost_ret (by simp [results, Tryz.results14, go_sem, y0]; rfl) rfl ?_
   exact ⟨_, rfl, hG, pv, cv, L', rfl, hN.at', by rw [H6.out, List.take_length]; rfl⟩
set_option maxRecDepth 100000 in
set_option maxHeartbeats 1600000 in
theorem ref_Initial20 (w : World) (P : Ptrs) (M : Mdl) (hm : MdlAt w P M) (hf : Few M) :
  Calls Tryz.prog 16 #[.agg (mcells P M)] w (Ret w fun r w' => PlcGets (initP M) r w') := by
 have HM0 := Lib.hid hm
 have HF := Lib.hid hf
 have B0 := Cells.new w (mcells P M) 29
 have B1 := Cells.new (w.alloc (.cells (mcells P M) 29)) #[.slice none 0 0] 34
 have B2 := Cells.new ((w.alloc (.cells (mcells P M) 29)).alloc (.cells #[.slice none 0 0] 34)) #[.slice none 0 0] 34
 simp only [World.size_alloc] at B1 B2
 have m5 := mc5 B0.2 _ (B1.1.trans B2.1)
 have H := Lib.hid (show _ ∧ _ ∧ _ ∧ _ from ⟨B0.1.trans (B1.1.trans B2.1), B0.2.grow (B1.1.trans B2.1), B1.2.grow B2.1, B2.2⟩)
 skip
 clear B0 B1 B2 hm hf
 obtain ⟨p0, c0, p1, c1, p2, c2, p3, c3, p4, c4, p5, c5, p6, c6⟩ := P
 unfold mcells at H m5 ⊢
 dsimp only at m5
 go_enter Tryz.func16, Tryz.ntmps16
 go_wp2_with fail
 clear m5
 skip
 generalize hb3 : w.heap.size + 1 + 1 = b3 at H ⊢
 generalize hb2 : w.heap.size + 1 = b2 at H ⊢
 generalize hbm : w.heap.size = bm at H ⊢
 generalize ((w.alloc _).alloc _).alloc _ = W at H ⊢
 have HB := Lib.hid (show bm < W.heap.size ∧ b2 < W.heap.size ∧ b3 < W.heap.size ∧ ¬ b3 < w.heap.size ∧ ¬ b2 < w.heap.size ∧ bm ≠ b3 ∧ b2 ≠ b3 ∧ w.heap.size ≤ W.heap.size from by
  have := H.out.2.2.2.lt
  have := H.out.2.1.lt
  have := H.out.2.2.1.lt
  have := H.out.1.size
  refine ⟨by omega, by omega, by omega, by omega, by omega, by omega, by omega, by omega⟩)
 have HI := Lib.hid (show InitI w W.heap.size bm b2 b3 (mcells ⟨p0, c0, p1, c1, p2, c2, p3, c3, p4, c4, p5, c5, p6, c6⟩ M) [] W from ⟨.slice none 0 0, [], H.out.2.1, H.out.2.2.1, H.out.2.2.2, ⟨OwnL.nil _ _ _, by simp, by simp [ApartL]⟩, rfl, H.out.1, Nat.le_refl _⟩)
 clear hb3 hb2 hbm H
 have hfew := HF.out.1
 go_loopw [4] (fun i w9 => ∃ k : Nat, i = .int .i64 (k : Int) ∧ k ≤ M.items.length ∧ InitI w W.heap.size bm b2 b3 (mcells ⟨p0, c0, p1, c1, p2, c2, p3, c3, p4, c4, p5, c5, p6, c6⟩ M) (initU (M.items.take k)) w9) (fun i _ => M.items.length - (RowKit.intOf i).toNat)
 case atStart => exact ⟨0, rfl, Nat.zero_le _, by simpa [initU] using HI.out⟩
 case round =>
  clear HI
  obtain ⟨k, rfl, hk, v, L', h1, h2, h3, h4, h6, h7, h8⟩ := hrel
  have H1 := Lib.hid h1
  have H2 := Lib.hid h2
  have H3 := Lib.hid h3
  have H4 := Lib.hid h4
  have H6 := Lib.hid h6
  have H7 := Lib.hid h7
  have H8 := Lib.hid h8
  have HM := Lib.hid (HM0.out.grow h7)
  have HLL := Lib.hid (show L'.length = k by rw [← usOf_len, h6]; unfold initU; rw [List.length_map, List.length_take]; omega)
  clear h1 h2 h3 h4 h6 h7 h8
  generalize hwr1 : wr = W0 at H1 H2 H3 H4 H7 H8 HM ⊢
  clear hwr1
  by_cases hlt : k < M.items.length
  ·have hlt' : (k : Int) < (M.items.length : Int) := by omega
   obtain ⟨b, o, x, rfl, hx, hc⟩ := item_at HM.out.items rfl hlt
   have HX := Lib.hid hx
   have hol := (HF.out.2.2.2.2.2.1 x (List.mem_of_getElem? hx)).2
   have HST := Lib.hid (initU_take hx)
   have o1 := OwnL.made0 (sz := 2) (enc := encU) W0 W0.heap.size 74 (Nat.le_refl _)
   have gA : Gr W0 (W0.alloc (.cells #[] 74)) := (Gr.refl _).alloc _
   have HC := Lib.hid (fun w' (g : Gr W0 w') => (hc w' g).2.2.2.2.2.2)
   have HON := Lib.hid (show IntL W0 (.slice x.onP x.on.length x.onC) x.on from HM.out.ons x (List.mem_of_getElem? hx))
   have m5 := mc5 H1.out _ (Gr.refl _)
   have hk1 : IntKind.i64.wrap ((k : Int) + 1) = (k : Int) + 1 := by rw [IntKind.wrap_i64]; omega
   dsimp only at m5
   clear hx hc
   go_wp2_with fail
   clear m5
   have O1 := Lib.hid o1
   have GA := Lib.hid gA
   clear o1 gA
   generalize Value.slice (some ⟨W0.heap.size, 0, none⟩) 0 0 = v0 at O1 ⊢
   generalize W0.alloc _ = W1 at O1 GA ⊢
   go_loopw [5, 6] (fun v i w9 => ∃ (n : Nat) (y : Value), v = y ∧ i = .int .i64 (n : Int) ∧ n ≤ x.on.length ∧ OwnU w9 W0.heap.size v ((x.on.take n).map unit0) ∧ Gr W0 w9) (fun _ i _ => x.on.length - (RowKit.intOf i).toNat)
   case atStart => exact ⟨0, _, rfl, rfl, Nat.zero_le _, O1.out, GA.out⟩
   case round =>
    clear O1 GA
    obtain ⟨n, y, rfl, rfl, hn, ho, hg⟩ := hrel
    have HO := Lib.hid ho
    have GL := Lib.hid hg
    clear ho hg
    have m5 := mc5 H1.out _ GL.out
    dsimp only at m5
    have i6 := HC.out _ GL.out
    by_cases hln : n < x.on.length
    ·have hln' : (n : Int) < (x.on.length : Int) := by omega
     obtain ⟨bq, oq, z, hpz, hz, hcz⟩ := int_at (HON.out.grow GL.out) rfl hln
     have c0 := hcz _ (Gr.refl _)
     have HFT := Lib.hid (map_take unit0 hz)
     have HLE := Lib.hid (show ((x.on.take n).map unit0).length ≤ 1000 from by rw [List.length_map, List.length_take]; omega)
     have hk1 : IntKind.i64.wrap ((n : Int) + 1) = (n : Int) + 1 := by rw [IntKind.wrap_i64]; omega
     rw [hpz] at i6
     clear hz hcz hpz
     obtain ⟨pv, cv, hv, _, _⟩ := HO.out.read.parts
     generalize ((x.on.take n).map unit0).length = N at hv
     subst hv
     go_wp2_with (at_builtin; refine Hold.hold ?_)
     clear c0 i6 m5
     have B8 := SlL.new wr 74 encU_len [unit0 z] #[.int .i64 z, .int .i64 0] 1 rfl rfl (by decide)
     generalize wr.heap.size = b9 at B8 ⊢
     generalize wr.alloc _ = w8 at B8 ⊢
     obtain ⟨g8, t8⟩ := B8
     refine Hold.go ?_
     refine wpList_appendL rfl _ _ 71 74 _ 16 rfl Tryz.underlying71 unit_info rfl (by decide) encU_len encU_one W0.heap.size _ _ _ [unit0 z] rfl (HO.out.grow g8) rfl t8 (by have := HLE.out; simp only [List.length_singleton]; omega) (by have := HLE.out; simp only [List.length_singleton]; omega) ((GL.out.trans g8).size) ?_
     intro v' w9 ho9 k9
     have HO9 := Lib.hid ho9
     have G9 := Lib.hid ((HO.out.grow g8).gr (GL.out.trans g8) k9)
     clear ho9 k9 g8 t8
     go_wp2_with fail
     exact ⟨⟨n + 1, _, rfl, by go_num, by omega, by rw [HFT.out]; exact HO9.out, G9.out⟩, by simp [RowKit.intOf]; omega⟩
    ·obtain rfl : n = x.on.length := by omega
     have h9 := HO.out
     rw [List.take_length] at h9
     obtain ⟨py, cy, hvy, _, _⟩ := h9.read.parts
     obtain ⟨N, hN⟩ : ∃ N, (x.on.map unit0).length = N := ⟨_, rfl⟩
     rw [hN] at hvy
     subst hvy
     have HOY := Lib.hid (show OwnU wr W0.heap.size (rowV ⟨py, cy, x.on.map unit0⟩) (x.on.map unit0) from by
      show OwnU wr _ (.slice py (x.on.map unit0).length cy) _
      rw [hN]; exact h9)
     have HNN := Lib.hid hN
     clear h9 hN HO
     have hoff : ∀ z ∈ L', Off2 (rowV z) (rowV ⟨py, cy, x.on.map unit0⟩) := fun z hz k hk e => by
      have h1 := ((H4.out.uns z hz).lt k hk).2
      have h2 := (HOY.out.lt k e).1
      omega
     have hvy : Off2 v (rowV ⟨py, cy, x.on.map unit0⟩) := fun k hk e => by
      have h1 := (H4.out.rows.lt k hk).2
      have h2 := (HOY.out.lt k e).1
      omega
     have HOF := Lib.hid (And.intro hoff hvy)
     clear hoff hvy
     have HOY := Lib.hid (HOY.out.mono (base' := W.heap.size) H8.out)
     have G := Lib.hid (H7.out.trans GL.out)
     have H1 := Lib.hid (H1.out.grow GL.out)
     have H2 := Lib.hid (H2.out.grow GL.out)
     have H3 := Lib.hid (H3.out.grow GL.out)
     have H4 := Lib.hid (H4.out.grow GL.out)
     have H8 := Lib.hid (Nat.le_trans H8.out GL.out.size)
     have o0 := H3.out.at 0 rfl
     go_wp2_with (at_builtin; refine Hold.hold ?_)
     clear o0 m5 i6
     have B8 := SlL.new wr 71 encRU_len [(⟨py, cy, x.on.map unit0⟩ : RowU)] #[.slice py N cy] 1 (by rw [← HNN.out]; rfl) rfl (by decide)
     generalize hb8 : wr.heap.size = b8 at B8 ⊢
     generalize wr.alloc _ = w8 at B8 ⊢
     obtain ⟨g8, t8⟩ := B8
     have G := Lib.hid (G.out.trans g8)
     have H1 := Lib.hid (H1.out.grow g8)
     have H2 := Lib.hid (H2.out.grow g8)
     have H3 := Lib.hid (H3.out.grow g8)
     have H4 := Lib.hid (H4.out.grow g8)
     have H8 := Lib.hid (Nat.le_trans H8.out g8.size)
     have HOY := Lib.hid (HOY.out.grow g8)
     refine Hold.go ?_
     refine wpList_appendB rfl _ _ 32 71 _ 24 rfl Tryz.underlying32 urow_info rfl (by decide) encRU_len encRU_one W.heap.size v _ L' [(⟨py, cy, x.on.map unit0⟩ : RowU)] rfl H4.out.rows rfl t8 (by have := HLL.out; simp; omega) (by have := HLL.out; simp; omega) H8.out (by simp) ?_
     intro v' w9 ho9 k9 hblk
     obtain ⟨p9, c9, hv9, _, _⟩ := (OwnL.read ho9).parts
     obtain ⟨N9, hN9⟩ : ∃ N, (L' ++ [(⟨py, cy, x.on.map unit0⟩ : RowU)]).length = N := ⟨_, rfl⟩
     rw [hN9] at hv9
     subst hv9
     clear hN9
     obtain ⟨c1', c2', c3', c4', c5', c6', c7', c8'⟩ := HB.out
     have hout := InitI.push (y := ⟨py, cy, x.on.map unit0⟩) c1' c2' c3' c4' c6' c7' c8' H1.out H2.out H3.out H4.out G.out H8.out HOY.out HOF.out.1 HOF.out.2 ho9 k9 hblk
     have hne3 : some b3 ≠ v.ownBlock := fun e => by have := (H4.out.rows.lt b3 e.symm).1; omega
     have T9 := H3.out.grown k9 hne3
     have d0 := T9.at 0 rfl
     have f0 := Cells.f T9 0
     have HOUT := Lib.hid hout
     have hk1 : IntKind.i64.wrap ((k : Int) + 1) = (k : Int) + 1 := by rw [IntKind.wrap_i64]; omega
     clear hout hb8 T9 hblk hne3 k9 ho9 g8 t8 c1' c2' c3' c4' c5' c6' c7' c8'
     go_wp2_with fail
     clear d0 f0
     refine ⟨⟨k + 1, by go_num, by omega, ?_⟩, by simp [RowKit.intOf]; omega⟩
     rw [HST.out, ← H6.out]
     exact HOUT.out
  ·obtain rfl : k = M.items.length := by omega
   have m5 := mc5 H1.out _ (Gr.refl _)
   dsimp only at m5
   obtain ⟨c1', c2', c3', c4', c5', c6', c7', c8'⟩ := HB.out
   obtain ⟨pv, cv, rfl⟩ := H4.out.at
   have o0 := H3.out.at 0 rfl
   have q0 := H2.out.at 0 rfl
   have q1 := Cells.f H2.out 0
   go_wp2_with fail
   clear o0 q0 q1
   have hN : PlcNew (W0.setCell ⟨b2, 0, none⟩ (.slice pv L'.length cv)) W.heap.size pv cv L' := (H4.out.new (by have := HLL.out; omega) (fun x hx => by
    have h := initU_few HF.out M.items.length x.us (by rw [← H6.out]; exact List.mem_map_of_mem hx)
    omega)).other c2'
   have hT := H2.out.set 0 (.slice pv L'.length cv)
   have hG := H7.out.set c5' (i := 0) (.slice pv L'.length cv)
   generalize W0.setCell _ _ = W9 at hN hT hG ⊢
   have y0 := hT.at 0 rfl
   refine bodyPost_ret (by simp [results, Tryz.results16, go_sem, y0]; rfl) rfl ?_
   exact ⟨_, rfl, hG, pv, cv, L', rfl, hN.at', by rw [H6.out, List.take_length]; rfl⟩
end Go.Proofs.YtchpbaaabnkkkaaGreatDoor

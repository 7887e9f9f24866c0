/-
 Load and Dark of placements.
-/
import Derived.Test.YtchpbaaabnkkkaaGreatDoorPlB
import Derived.Test.YtchpbaaabnkkkaaGreatDoorPlJ
import Derived.Test.YtchpbaaabnkkkaaGreatDoorPmC
namespace Go.Proofs.YtchpbaaabnkkkaaGreatDoor
open Go.RowKit Go.Lib Lex
set_option linter.unusedVariables false
set_option linter.unusedSimpArgs false

theorem load_prd (w : World) (b : Nat) (m : Int) (hb : Cells w b #[.int .i64 m]) : PrdB w (.func (.func 82) #[] #[.pointer (some ⟨b, 0, none⟩)]) encU (onMach m) := by
 refine ⟨_, _, rfl, enters_of Tryz.func82 (by kernel_rfl) rfl, fun w' g x => ?_⟩
 have B := Cells.new w' #[.int .i64 x.mach, .int .i64 x.st] 74
 have u0 := B.2.at 0 rfl
 have d0 := (hb.grow (g.trans B.1)).at 0 rfl
 have G := Lib.hid B.1
 clear B g hb
 show Calls _ _ #[.agg #[.int .i64 x.mach, .int .i64 x.st], .pointer (some ⟨b, 0, none⟩)] _ _
 go_enter Tryz.func82, Tryz.ntmps82
 go_wp2_with fail
 go_ret
 exact ⟨_, rfl, G.out, rfl⟩
theorem load_fin {M : Mdl} {X : Plc} {n : Int} {k : Nat} {x : ItemM} (h : M.items[k]? = some x) {c : Nat} (hc : cntOn (unitsP X ((k : Int) + 1)) n = c) : IntKind.i64.wrap (loadP M X n k + IntKind.i64.wrap (x.load * (c : Int))) = loadP M X n (k + 1) := by
 rw [loadP_step h, hc]
 generalize x.load * (c : Int) = z
 have h1 := IntKind.wrap_i64 z
 have h2 := IntKind.wrap_i64 (loadP M X n k + IntKind.i64.wrap z)
 unfold wrap64
 omega
set_option maxRecDepth 100000 in
set_option maxHeartbeats 1600000 in
theorem plc_Load (w : World) (P : Ptrs) (M : Mdl) (p : Option Addr) (c : Nat) (L : List RowU) (n : Int) (hm : MdlAt w P M) (hf : Few M) (hp : PlcAt w p c L) (hk : FewK (usOf L)) :
  Calls Tryz.prog 37 #[.agg (mcells P M), plcV p c L, .int .i64 n] w (Ret w fun r _ => r = .int .i64 (loadP M (usOf L) n M.items.length)) := by
 have HF := Lib.hid hf
 have HK := Lib.hid hk
 clear hf hk
 have HM0 := Lib.hid hm
 have HP0 := Lib.hid hp
 have B0 := Cells.new w (mcells P M) 29
 have B1 := Cells.new (w.alloc (.cells (mcells P M) 29)) #[.slice p L.length c] 34
 have B2 := Cells.new ((w.alloc (.cells (mcells P M) 29)).alloc (.cells #[.slice p L.length c] 34)) #[.int .i64 n] 3
 simp only [World.size_alloc] at B1 B2
 have m5 := mc5 B0.2 _ (B1.1.trans B2.1)
 have H := Lib.hid (show _ ∧ _ ∧ _ ∧ _ from ⟨B0.1.trans (B1.1.trans B2.1), B0.2.grow (B1.1.trans B2.1), B1.2.grow B2.1, B2.2⟩)
 clear B0 B1 B2 hm hp
 unfold mcells at H m5 ⊢
 unfold plcV
 go_enter Tryz.func37, Tryz.ntmps37
 go_wp2_with fail
 clear m5
 generalize w.heap.size + 1 + 1 = bn at H ⊢
 generalize w.heap.size + 1 = bp at H ⊢
 generalize w.heap.size = bm at H ⊢
 generalize ((w.alloc _).alloc _).alloc _ = W at H ⊢
 have G := Lib.hid (show Gr w W from H.out.1)
 have TM := Lib.hid (show Cells W bm (mcells P M) from H.out.2.1)
 have TP := Lib.hid (show Cells W bp #[.slice p L.length c] from H.out.2.2.1)
 have TN := Lib.hid (show Cells W bn #[.int .i64 n] from H.out.2.2.2)
 have HM := Lib.hid (HM0.out.grow G.out)
 have HP := Lib.hid (HP0.out.grow G.out)
 clear H
 have hfew := HF.out.1
 go_loopw [7, 13] (fun v i w9 => ∃ k : Nat, v = .int .i64 (loadP M (usOf L) n k) ∧ i = .int .i64 (k : Int) ∧ k ≤ M.items.length ∧ Gr W w9) (fun _ i _ => M.items.length - (RowKit.intOf i).toNat)
 case atStart => exact ⟨0, rfl, rfl, Nat.zero_le _, Gr.refl _⟩
 case round =>
  obtain ⟨k, rfl, rfl, hk, hg⟩ := hrel
  have GL := Lib.hid hg
  clear hg
  by_cases hlt : k < M.items.length
  ·have hlt' : (k : Int) < (M.items.length : Int) := by omega
   obtain ⟨b, o, x, hpp, hx, hc⟩ := item_at (HM.out.grow GL.out).items rfl hlt
   have HX := Lib.hid hx
   obtain ⟨c0, c1, c2, c3, c4, c5, c6⟩ := hc wr (Gr.refl _)
   have B := Cells.new wr (itemV x) 51
   have HB := Lib.hid B
   rw [hpp]
   clear hx hc B hpp
   unfold itemV at HB
   go_wp2_with fail
   clear c0 c1 c2 c3 c4 c5 c6
   generalize wr.heap.size = b9 at HB ⊢
   generalize wr.alloc _ = W9 at HB ⊢
   have GL := Lib.hid (GL.out.trans HB.out.1)
   have t3 := HB.out.2.c 3 rfl
   have s0 := (TP.out.grow GL.out).c 0 rfl
   have hw1 : IntKind.i64.wrap ((k : Int) + 1) = (k : Int) + 1 := by rw [IntKind.wrap_i64]; omega
   have g0 : Gr W9 W9.drew := (Gr.refl _).drew
   clear HB
   refine wp_region_fast [(0, true), (1, true), (2, true), (3, true), (4, true), (5, true), (7, true), (6, false), (8, false), (9, true), (10, true), (11, true), (12, true)] (by kernel_rfl) (by kernel_rfl) rfl (by kernel_rfl) (fun _ _ d _ _ h => by cases d <;> exact h) ?_
   repeat (refine wpE_readB (v := ?_) g0 rfl rfl (fun w' hg => ?_) (fun K hK => ?_); rotate_left; (go_simp; rfl); go_simp; refine hK _ _ ?_; clear hK K)
   refine wpE_fn (args := ?_) rfl rfl rfl rfl rfl rfl (by kernel_rfl) (by kernel_rfl) ?_ (fun K hK => ?_)
   rotate_left
   ·go_simp; rfl
   refine (plc_units _ p c L _ (HP.out.grow (GL.out.trans g0))).mono ?_
   rintro _ w2 ⟨_, rfl, g2, y, rfl, hy, hon, hyb⟩
   have hyl : y.us.length ≤ 1000 := by rw [hy]; exact unitsP_few HK.out _
   unfold rowV
   have HY := Lib.hid hy
   have HON := Lib.hid hon
   clear hy hon hyb
   refine ⟨_, rfl, g2, ?_⟩
   go_simp
   refine hK _ _ ?_
   clear hK K
   replace g0 := g0.trans g2
   clear g2
   refine wpE_fn (args := ?_) rfl rfl rfl rfl rfl rfl (by kernel_rfl) (by kernel_rfl) ?_ (fun K hK => ?_)
   rotate_left
   ·go_simp; rfl
   refine (plc_filtered w2 y.p y.us.length y.c y.us _ (onMach n) HON.out rfl hyl (load_prd w2 bn n (TN.out.grow (GL.out.trans g0)))).mono ?_
   rintro _ w3 ⟨r3, rfl, g3, h3⟩
   obtain ⟨p3, c3, rfl, _, _⟩ := h3.read.parts
   have HC := Lib.hid (show cntOn (unitsP (usOf L) ((k : Int) + 1)) n = (y.us.filter (onMach n)).length from by rw [← HY.out]; rfl)
   refine ⟨_, rfl, g3, ?_⟩
   go_simp
   refine hK _ _ ?_
   clear hK K
   replace g0 := g0.trans g3
   clear h3 g3
   have g9 := Gr.refl w3
   have hst := load_fin HX.out HC.out
   have HST := Lib.hid hst
   clear hst
   repeat (refine wpE_readB (v := ?_) g9 rfl rfl (fun w' hg => ?_) (fun K hK => ?_); rotate_left; (go_simp; rfl); go_simp; refine hK _ _ ?_; clear hK K)
   refine wpE_nil ?_
   have GL := Lib.hid (GL.out.trans g0)
   clear t3 s0 g9
   go_wp2_with fail
   exact ⟨⟨k + 1, by rw [← HST.out], by go_num, by omega, GL.out⟩, by simp [RowKit.intOf]; omega⟩
  ·obtain rfl : k = M.items.length := by omega
   go_wp2_with fail
   go_ret
   exact ⟨_, rfl, G.out.trans GL.out, rfl⟩
theorem add_fin {a x : Int} {c : Nat} {t : Bool} {d : Nat} (h : d = c + if t = true then 1 else 0) : (if t = true then wrap64 (wrap64 (a + x * (c : Int)) + x) else wrap64 (a + x * (c : Int))) = wrap64 (a + x * (d : Int)) := by
 subst h
 have h2 : (if t = true then 1 else 0 : Nat) = 0 ∨ (if t = true then 1 else 0 : Nat) = 1 := by cases t <;> simp
 cases t
 ·simp
 ·simp only [if_true]
  have e : x * ((c + 1 : Nat) : Int) = x * (c : Int) + x := by rw [Int.natCast_add, Int.mul_add]; simp
  rw [e]
  generalize x * (c : Int) = z
  unfold wrap64
  omega
set_option maxRecDepth 100000 in
set_option maxHeartbeats 1600000 in
theorem ref_Load20 (w : World) (P : Ptrs) (M : Mdl) (p : Option Addr) (c : Nat) (L : List RowU) (n : Int) (hm : MdlAt w P M) (hf : Few M) (hp : PlcAt w p c L) (hk : FewK (usOf L)) :
  Calls Tryz.prog 38 #[.agg (mcells P M), plcV p c L, .int .i64 n] w (Ret w fun r _ => r = .int .i64 (loadP M (usOf L) n M.items.length)) := by
 have HF := Lib.hid hf
 have HK := Lib.hid hk
 clear hf hk
 have HM0 := Lib.hid hm
 have HP0 := Lib.hid hp
 have B0 := Cells.new w (mcells P M) 29
 have B1 := Cells.new (w.alloc (.cells (mcells P M) 29)) #[.slice p L.length c] 34
 simp only [World.size_alloc] at B1
 have m0 := mc0 B0.2 _ B1.1
 have m1 := mc1 B0.2 _ B1.1
 have m2 := mc2 B0.2 _ B1.1
 have m3 := mc3 B0.2 _ B1.1
 have m4 := mc4 B0.2 _ B1.1
 have m5 := mc5 B0.2 _ B1.1
 have m6 := mc6 B0.2 _ B1.1
 have m7 := mc7 B0.2 _ B1.1
 have m8 := mc8 B0.2 _ B1.1
 have m9 := mc9 B0.2 _ B1.1
 have m10 := mc10 B0.2 _ B1.1
 have p0 := B1.2.at 0 rfl
 have H := Lib.hid (show _ ∧ _ ∧ _ from ⟨B0.1.trans B1.1, B0.2.grow B1.1, B1.2⟩)
 clear B0 B1 hm hp
 unfold mcells at H m0 m1 m2 m3 m4 m5 m6 m7 m8 m9 m10 ⊢
 unfold plcV
 go_enter Tryz.func38, Tryz.ntmps38
 go_wp2_with fail
 clear m0 m1 m2 m3 m4 m5 m6 m7 m8 m9 m10 p0
 generalize w.heap.size + 1 = bp at H ⊢
 generalize w.heap.size = bm at H ⊢
 generalize (w.alloc _).alloc _ = W at H ⊢
 have G := Lib.hid (show Gr w W from H.out.1)
 have TM := Lib.hid (show Cells W bm (mcells P M) from H.out.2.1)
 have TP := Lib.hid (show Cells W bp #[.slice p L.length c] from H.out.2.2)
 have HM := Lib.hid (HM0.out.grow G.out)
 have HP := Lib.hid (HP0.out.grow G.out)
 clear H
 have hfew := HF.out.1
 go_loopw [7, 8] (fun v i w9 => ∃ k : Nat, v = .int .i64 (loadP M (usOf L) n k) ∧ i = .int .i64 (k : Int) ∧ k ≤ M.items.length ∧ Gr W w9) (fun _ i _ => M.items.length - (RowKit.intOf i).toNat)
 case atStart => exact ⟨0, rfl, rfl, Nat.zero_le _, Gr.refl _⟩
 case round =>
  obtain ⟨k, rfl, rfl, hk, hg⟩ := hrel
  have GL := Lib.hid hg
  clear hg
  generalize hwr1 : wr = W0 at GL ⊢
  clear hwr1
  have m5 := mc5 (TM.out.grow GL.out) _ (Gr.refl _)
  by_cases hlt : k < M.items.length
  ·have hlt' : (k : Int) < (M.items.length : Int) := by omega
   obtain ⟨b, o, x, hpp, hx, hc⟩ := item_at (HM.out.grow GL.out).items rfl hlt
   have HX := Lib.hid hx
   have HC := Lib.hid (fun w' (g : Gr W0 w') => (hc w' g).2.2.2.1)
   have HPP := Lib.hid hpp
   have s0 := (TP.out.grow GL.out).at 0 rfl
   have hw1 : IntKind.i64.wrap ((k : Int) + 1) = (k : Int) + 1 := by rw [IntKind.wrap_i64]; omega
   clear hx hc hpp
   go_wp2_with fail
   clear m5 s0
   refine (ref_Units W0 p c L _ (HP.out.grow GL.out)).mono ?_
   rintro _ w2 ⟨_, rfl, g2, y, rfl, hy, hon, hyb⟩
   have hyl : y.us.length ≤ 1000 := by rw [hy]; exact unitsP_few HK.out _
   obtain ⟨py, cy, ly⟩ := y
   have HY := Lib.hid (show ly = unitsP (usOf L) ((k : Int) + 1) from hy)
   have HON := Lib.hid (show UnL w2 (.slice py ly.length cy) ly from hon)
   have G2 := Lib.hid g2
   dsimp only at hyl
   clear hy hon hyb g2
   unfold rowV
   go_wp2_with fail
   go_loopw [7, 10] (fun v i w9 => ∃ j : Nat, v = .int .i64 (wrap64 (loadP M (usOf L) n k + x.load * (cntOn (ly.take j) n : Int))) ∧ i = .int .i64 (j : Int) ∧ j ≤ ly.length ∧ w9 = w2) (fun _ i _ => ly.length - (RowKit.intOf i).toNat)
   case atStart => exact ⟨0, by simp [cntOn, loadP_wrap], rfl, Nat.zero_le _, rfl⟩
   case round =>
    obtain ⟨j, rfl, rfl, hj, rfl⟩ := hrel
    by_cases hlj : j < ly.length
    ·have hlj' : (j : Int) < (ly.length : Int) := by omega
     obtain ⟨bu, ou, u, rfl, hu, hcu⟩ := unit_at HON.out rfl hlj
     obtain ⟨d0, d1⟩ := hcu _ (Gr.refl _)
     have hst := add_fin (a := loadP M (usOf L) n k) (x := x.load) (cntOn_take hu n)
     have hj1 : IntKind.i64.wrap ((j : Int) + 1) = (j : Int) + 1 := by rw [IntKind.wrap_i64]; omega
     have m5 := mc5 (TM.out.grow (GL.out.trans G2.out)) _ (Gr.refl _)
     have i3 := HC.out _ G2.out
     rw [HPP.out] at m5
     clear hu hcu
     obtain ⟨t, ht⟩ : ∃ t, onMach n u = t := ⟨_, rfl⟩
     rw [ht] at hst
     have ht : (u.mach == n) = t := ht
     have HST := Lib.hid hst
     clear hst
     cases t
     ·go_wp2_with fail
      exact ⟨⟨j + 1, by rw [← HST.out]; rfl, by go_num, by omega, by first | rfl | trivial⟩, by simp [RowKit.intOf]; omega⟩
     ·go_wp2_with fail
      exact ⟨⟨j + 1, by rw [← HST.out]; rfl, by go_num, by omega, by first | rfl | trivial⟩, by simp [RowKit.intOf]; omega⟩
    ·obtain rfl : j = ly.length := by omega
     have HST := Lib.hid (show loadP M (usOf L) n (k + 1) = wrap64 (loadP M (usOf L) n k + x.load * (cntOn (ly.take ly.length) n : Int)) from by rw [loadP_step HX.out, List.take_length, HY.out])
     have hw1 : IntKind.i64.wrap ((k : Int) + 1) = (k : Int) + 1 := by rw [IntKind.wrap_i64]; omega
     go_wp2_with fail
     exact ⟨⟨k + 1, by rw [HST.out], by go_num, by omega, GL.out.trans G2.out⟩, by simp [RowKit.intOf]; omega⟩
  ·obtain rfl : k = M.items.length := by omega
   go_wp2_with fail
   go_ret
   exact ⟨_, rfl, G.out.trans GL.out, rfl⟩
set_option maxRecDepth 100000 in
theorem dark_prd (w : World) (P : Ptrs) (M : Mdl) (bm : Nat) (hm : MdlAt w P M) (hf : Few M) (ht : Cells w bm (mcells P M)) : PrdB w (.func (.func 83) #[] #[.pointer (some ⟨bm, 0, none⟩)]) encU (inDark M) := by
 refine ⟨_, _, rfl, enters_of Tryz.func83 (by kernel_rfl) rfl, fun w' g x => ?_⟩
 have HF := Lib.hid hf
 have B := Cells.new w' #[.int .i64 x.mach, .int .i64 x.st] 74
 have HB := Lib.hid B
 have TM := Lib.hid (ht.grow (g.trans B.1))
 have HM := Lib.hid (hm.grow (g.trans B.1))
 clear B g hm ht hf
 show Calls _ _ #[.agg #[.int .i64 x.mach, .int .i64 x.st], .pointer (some ⟨bm, 0, none⟩)] _ _
 go_enter Tryz.func83, Tryz.ntmps83
 go_wp2_with fail
 generalize w'.heap.size = b9 at HB ⊢
 generalize w'.alloc _ = W at HB TM HM ⊢
 have G := Lib.hid HB.out.1
 have u0 := HB.out.2.c 0 rfl
 clear HB
 have m0 := mc0 TM.out
 have m1 := mc1 TM.out
 have m2 := mc2 TM.out
 have m3 := mc3 TM.out
 have m4 := mc4 TM.out
 have m5 := mc5 TM.out
 have m6 := mc6 TM.out
 have m7 := mc7 TM.out
 have m8 := mc8 TM.out
 have m9 := mc9 TM.out
 have m10 := mc10 TM.out
 try dsimp only at m0 m1 m2 m3 m4 m5 m6 m7 m8 m9 m10
 have g0 : Gr W W.drew := (Gr.refl _).drew
 refine wp_region_fast [(0, true), (1, true), (2, true), (3, true), (4, true), (5, true), (6, true), (8, true), (9, true), (7, false), (10, true), (11, true), (12, true)] (by kernel_rfl) (by kernel_rfl) rfl (by kernel_rfl) (fun _ _ d _ _ h => by cases d <;> exact h) ?_
 by_cases hd : 1 ≤ M.dark
 ·have HD := Lib.hid hd
  repeat (refine wpE_readB (v := ?_) g0 rfl rfl (fun w' hg => ?_) (fun K hK => ?_); rotate_left; (go_simp; rfl); go_simp; refine hK _ _ ?_; clear hK K)
  refine wpE_fn (args := ?_) rfl rfl rfl rfl rfl rfl (by kernel_rfl) (by kernel_rfl) ?_ (fun K hK => ?_)
  rotate_left
  ·go_simp; rfl
  refine (site_Domain _ P M 4 x.mach (HM.out.grow g0) HF.out).mono ?_
  rintro _ w2 ⟨_, rfl, g2, rfl⟩
  refine ⟨_, rfl, g2, ?_⟩
  go_simp
  refine hK _ _ ?_
  clear hK K
  replace g0 := g0.trans g2
  repeat (refine wpE_readB (v := ?_) g0 rfl rfl (fun w' hg => ?_) (fun K hK => ?_); rotate_left; (go_simp; rfl); go_simp; refine hK _ _ ?_; clear hK K)
  refine wpE_nil ?_
  have G := Lib.hid (G.out.trans g0)
  clear m0 m1 m2 m3 m4 m5 m6 m7 m8 m9 m10 u0 g0 g2
  go_wp2_with fail
  go_ret
  exact ⟨_, rfl, G.out, by unfold inDark; rw [decide_eq_true HD.out]; rfl⟩
 ·have HD := Lib.hid hd
  repeat (first | (refine wpE_skip rfl rfl ?_; go_simp) | (refine wpE_readB (v := ?_) g0 rfl rfl (fun w' hg => ?_) (fun K hK => ?_); rotate_left; (go_simp; rfl); go_simp; refine hK _ _ ?_; clear hK K))
  refine wpE_nil ?_
  have G := Lib.hid (G.out.trans g0)
  clear m0 m1 m2 m3 m4 m5 m6 m7 m8 m9 m10 u0 g0
  go_wp2_with fail
  go_ret
  exact ⟨_, rfl, G.out, by unfold inDark; rw [decide_eq_false (show ¬ 1 ≤ M.dark by have := HD.out; omega)]; rfl⟩
set_option maxRecDepth 100000 in
set_option maxHeartbeats 1600000 in
theorem plc_Dark (w : World) (P : Ptrs) (M : Mdl) (p : Option Addr) (c : Nat) (L : List RowU) (item : Int) (hm : MdlAt w P M) (hf : Few M) (hp : PlcAt w p c L) (hk : FewK (usOf L)) :
  Calls Tryz.prog 39 #[.agg (mcells P M), plcV p c L, .int .i64 item] w (Ret w fun r _ => r = .int .i64 (darkP M (usOf L) item : Int)) := by
 have HF := Lib.hid hf
 have HK := Lib.hid hk
 clear hf hk
 have HM0 := Lib.hid hm
 have HP0 := Lib.hid hp
 have B0 := Cells.new w (mcells P M) 29
 have B1 := Cells.new (w.alloc (.cells (mcells P M) 29)) #[.slice p L.length c] 34
 simp only [World.size_alloc] at B1
 have m0 := mc0 B0.2 _ B1.1
 have m1 := mc1 B0.2 _ B1.1
 have m2 := mc2 B0.2 _ B1.1
 have m3 := mc3 B0.2 _ B1.1
 have m4 := mc4 B0.2 _ B1.1
 have m5 := mc5 B0.2 _ B1.1
 have m6 := mc6 B0.2 _ B1.1
 have m7 := mc7 B0.2 _ B1.1
 have m8 := mc8 B0.2 _ B1.1
 have m9 := mc9 B0.2 _ B1.1
 have m10 := mc10 B0.2 _ B1.1
 have p0 := B1.2.at 0 rfl
 have H := Lib.hid (show _ ∧ _ ∧ _ from ⟨B0.1.trans B1.1, B0.2.grow B1.1, B1.2⟩)
 clear B0 B1 hm hp
 unfold mcells at H m0 m1 m2 m3 m4 m5 m6 m7 m8 m9 m10 ⊢
 unfold plcV
 go_enter Tryz.func39, Tryz.ntmps39
 go_wp2_with fail
 clear m0 m1 m2 m3 m4 m5 m6 m7 m8 m9 m10 p0
 generalize w.heap.size + 1 = bp at H ⊢
 generalize w.heap.size = bm at H ⊢
 generalize (w.alloc _).alloc _ = W at H ⊢
 have G := Lib.hid (show Gr w W from H.out.1)
 have TM := Lib.hid (show Cells W bm (mcells P M) from H.out.2.1)
 have TP := Lib.hid (show Cells W bp #[.slice p L.length c] from H.out.2.2)
 have HM := Lib.hid (HM0.out.grow G.out)
 have HP := Lib.hid (HP0.out.grow G.out)
 clear H
 refine (plc_units W p c L _ HP.out).mono ?_
 rintro _ w2 ⟨_, rfl, g2, y, rfl, hy, hon, hyb⟩
 have hyl : y.us.length ≤ 1000 := by rw [hy]; exact unitsP_few HK.out _
 have HY := Lib.hid hy
 have HON := Lib.hid hon
 have G := Lib.hid (G.out.trans g2)
 have TM := Lib.hid (TM.out.grow g2)
 have HM := Lib.hid (HM.out.grow g2)
 clear g2
 clear hy hon hyb
 unfold rowV
 go_wp2_with fail
 refine (plc_filtered w2 y.p y.us.length y.c y.us _ (inDark M) HON.out rfl hyl (dark_prd w2 P M bm HM.out HF.out TM.out)).mono ?_
 rintro _ w3 ⟨r3, rfl, g3, h3⟩
 obtain ⟨p3, c3, rfl, _, _⟩ := h3.read.parts
 have G := Lib.hid (G.out.trans g3)
 clear h3 g3
 go_wp2_with fail
 go_ret
 exact ⟨_, rfl, G.out, by unfold darkP; rw [← HY.out]; rfl⟩
set_option maxRecDepth 100000 in
set_option maxHeartbeats 1600000 in
theorem ref_Dark20 (w : World) (P : Ptrs) (M : Mdl) (p : Option Addr) (c : Nat) (L : List RowU) (item : Int) (hm : MdlAt w P M) (hf : Few M) (hp : PlcAt w p c L) (hk : FewK (usOf L)) :
  Calls Tryz.prog 40 #[.agg (mcells P M), plcV p c L, .int .i64 item] w (Ret w fun r _ => r = .int .i64 (darkP M (usOf L) item : Int)) := by
 have HF := Lib.hid hf
 have HK := Lib.hid hk
 clear hf hk
 have HM0 := Lib.hid hm
 have HP0 := Lib.hid hp
 have B0 := Cells.new w (mcells P M) 29
 have B1 := Cells.new (w.alloc (.cells (mcells P M) 29)) #[.slice p L.length c] 34
 simp only [World.size_alloc] at B1
 have m0 := mc0 B0.2 _ B1.1
 have m1 := mc1 B0.2 _ B1.1
 have m2 := mc2 B0.2 _ B1.1
 have m3 := mc3 B0.2 _ B1.1
 have m4 := mc4 B0.2 _ B1.1
 have m5 := mc5 B0.2 _ B1.1
 have m6 := mc6 B0.2 _ B1.1
 have m7 := mc7 B0.2 _ B1.1
 have m8 := mc8 B0.2 _ B1.1
 have m9 := mc9 B0.2 _ B1.1
 have m10 := mc10 B0.2 _ B1.1
 have p0 := B1.2.at 0 rfl
 have H := Lib.hid (show _ ∧ _ ∧ _ from ⟨B0.1.trans B1.1, B0.2.grow B1.1, B1.2⟩)
 clear B0 B1 hm hp
 unfold mcells at H m0 m1 m2 m3 m4 m5 m6 m7 m8 m9 m10 ⊢
 unfold plcV
 go_enter Tryz.func40, Tryz.ntmps40
 go_wp2_with fail
 clear m0 m1 m2 m3 m4 m5 m6 m7 m8 m9 m10 p0
 generalize w.heap.size + 1 = bp at H ⊢
 generalize w.heap.size = bm at H ⊢
 generalize (w.alloc _).alloc _ = W at H ⊢
 have G := Lib.hid (show Gr w W from H.out.1)
 have TM := Lib.hid (show Cells W bm (mcells P M) from H.out.2.1)
 have TP := Lib.hid (show Cells W bp #[.slice p L.length c] from H.out.2.2)
 have HM := Lib.hid (HM0.out.grow G.out)
 have HP := Lib.hid (HP0.out.grow G.out)
 clear H
 refine (ref_Units W p c L _ HP.out).mono ?_
 rintro _ w2 ⟨_, rfl, g2, y, rfl, hy, hon, hyb⟩
 have hyl : y.us.length ≤ 1000 := by rw [hy]; exact unitsP_few HK.out _
 obtain ⟨py, cy, ly⟩ := y
 have HY := Lib.hid (show ly = unitsP (usOf L) item from hy)
 have HON := Lib.hid (show UnL w2 (.slice py ly.length cy) ly from hon)
 have G := Lib.hid (G.out.trans g2)
 have TM := Lib.hid (TM.out.grow g2)
 have HM := Lib.hid (HM.out.grow g2)
 clear g2
 dsimp only at hyl
 clear hy hon hyb
 unfold rowV
 go_wp2_with fail
 go_loopw [8, 9] (fun v i w9 => ∃ j : Nat, v = .int .i64 (((ly.take j).filter (inDark M)).length : Int) ∧ i = .int .i64 (j : Int) ∧ j ≤ ly.length ∧ Gr w2 w9) (fun _ i _ => ly.length - (RowKit.intOf i).toNat)
 case atStart => exact ⟨0, rfl, rfl, Nat.zero_le _, Gr.refl _⟩
 case round =>
  obtain ⟨j, rfl, rfl, hj, hg⟩ := hrel
  have GL := Lib.hid hg
  clear hg
  by_cases hlj : j < ly.length
  ·have hlj' : (j : Int) < (ly.length : Int) := by omega
   obtain ⟨bu, ou, u, rfl, hu, hcu⟩ := unit_at (HON.out.grow GL.out) rfl hlj
   have d0 := fun w' g => (hcu w' g).1
   have HFT := Lib.hid (filter_take (inDark M) hu)
   have HLE := Lib.hid (show ((ly.take j).filter (inDark M)).length ≤ 1000 from Nat.le_trans (List.length_filter_le _ _) (by rw [List.length_take]; omega))
   have hj1 : IntKind.i64.wrap ((j : Int) + 1) = (j : Int) + 1 := by rw [IntKind.wrap_i64]; omega
   clear hu hcu
   have TMx := Lib.hid (TM.out.grow GL.out)
   go_wp2_with fail
   have m0 := mc0 TMx.out
   have m1 := mc1 TMx.out
   have m2 := mc2 TMx.out
   have m3 := mc3 TMx.out
   have m4 := mc4 TMx.out
   have m5 := mc5 TMx.out
   have m6 := mc6 TMx.out
   have m7 := mc7 TMx.out
   have m8 := mc8 TMx.out
   have m9 := mc9 TMx.out
   have m10 := mc10 TMx.out
   have g0 : Gr wr wr.drew := (Gr.refl _).drew
   have hcn : IntKind.i64.wrap ((((ly.take j).filter (inDark M)).length : Int) + 1) = (((ly.take j).filter (inDark M)).length : Int) + 1 := by have := HLE.out; rw [IntKind.wrap_i64]; omega
   refine wp_region_fast [(0, true), (1, true), (2, true), (3, true), (4, true), (5, true), (6, true), (7, true), (8, true), (9, true), (11, true), (12, true), (10, false), (13, true), (14, true)] (by kernel_rfl) (by kernel_rfl) rfl (by kernel_rfl) (fun _ _ d _ _ h => by cases d <;> exact h) ?_
   by_cases hd : 1 ≤ M.dark
   ·have HD := Lib.hid hd
    repeat (refine wpE_readB (v := ?_) g0 rfl rfl (fun w' hg => ?_) (fun K hK => ?_); rotate_left; (go_simp; rfl); go_simp; refine hK _ _ ?_; clear hK K)
    refine wpE_fn (args := ?_) rfl rfl rfl rfl rfl rfl (by kernel_rfl) (by kernel_rfl) ?_ (fun K hK => ?_)
    rotate_left
    ·go_simp; rfl
    refine (ref_Domain14 _ P M 4 u.mach (HM.out.grow (GL.out.trans g0)) HF.out).mono ?_
    rintro _ w3 ⟨_, rfl, g3, rfl⟩
    refine ⟨_, rfl, g3, ?_⟩
    go_simp
    refine hK _ _ ?_
    clear hK K
    replace g0 := g0.trans g3
    obtain ⟨t, ht⟩ : ∃ t, (domainM M 4 u.mach == M.dark) = t := ⟨_, rfl⟩
    have HFT := Lib.hid (show (ly.take (j + 1)).filter (inDark M) = (ly.take j).filter (inDark M) ++ if t = true then [u] else [] from by rw [HFT.out]; unfold inDark; rw [decide_eq_true HD.out, Bool.true_and, ht])
    repeat (refine wpE_readB (v := ?_) g0 rfl rfl (fun w' hg => ?_) (fun K hK => ?_); rotate_left; (go_simp; rfl); go_simp; refine hK _ _ ?_; clear hK K)
    refine wpE_nil ?_
    have GL := Lib.hid (GL.out.trans g0)
    clear m0 m1 m2 m3 m4 m5 m6 m7 m8 m9 m10 d0 g0 g3 hd
    cases t
    ·go_wp2_with fail
     exact ⟨⟨j + 1, by rw [HFT.out]; simp, by go_num, by omega, GL.out⟩, by simp [RowKit.intOf]; omega⟩
    ·go_wp2_with fail
     exact ⟨⟨j + 1, by rw [HFT.out]; simp, by go_num, by omega, GL.out⟩, by simp [RowKit.intOf]; omega⟩
   ·have HD := Lib.hid hd
    have HFT := Lib.hid (show (ly.take (j + 1)).filter (inDark M) = (ly.take j).filter (inDark M) from by rw [HFT.out]; unfold inDark; rw [decide_eq_false (show ¬ 1 ≤ M.dark by have := HD.out; omega)]; simp)
    repeat (first | (refine wpE_skip rfl rfl ?_; go_simp) | (refine wpE_readB (v := ?_) g0 rfl rfl (fun w' hg => ?_) (fun K hK => ?_); rotate_left; (go_simp; rfl); go_simp; refine hK _ _ ?_; clear hK K))
    refine wpE_nil ?_
    have GL := Lib.hid (GL.out.trans g0)
    clear m0 m1 m2 m3 m4 m5 m6 m7 m8 m9 m10 d0 g0 hd
    go_wp2_with fail
    exact ⟨⟨j + 1, by rw [HFT.out], by go_num, by omega, GL.out⟩, by simp [RowKit.intOf]; omega⟩
  ·obtain rfl : j = ly.length := by omega
   rw [List.take_length]
   go_wp2_with fail
   go_ret
   exact ⟨_, rfl, G.out.trans GL.out, by unfold darkP; rw [← HY.out]; rfl⟩
end Go.Proofs.YtchpbaaabnkkkaaGreatDoor

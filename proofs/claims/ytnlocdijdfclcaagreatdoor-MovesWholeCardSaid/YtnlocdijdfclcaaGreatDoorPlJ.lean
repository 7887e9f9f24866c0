/-
  placement.Valid, exodusref20.Valid.
  exodusref20.Valid.
-/
import Derived.Test.YtnlocdijdfclcaaGreatDoorPlp
import Derived.Test.YtnlocdijdfclcaaGreatDoorPlq
import Derived.Test.YtnlocdijdfclcaaGreatDoorCatZ
namespace Go.Proofs.YtnlocdijdfclcaaGreatDoor
open Go.RowKit Go.Lib Lex
set_option linter.unusedVariables false
set_option linter.unusedSimpArgs false

def StepU (M : Mdl) (it : ItemM) (l : List UnitM) (j : Nat) : Prop := ∀ u, l[j]? = some u → UnitOK M it u ∧ (0 < j → ∀ v, l[j - 1]? = some v → v.mach < u.mach)
def RowsU (M : Mdl) (it : ItemM) (l : List UnitM) : Prop := Rise l ∧ ∀ u ∈ l, UnitOK M it u
theorem rows_of_steps {M : Mdl} {it : ItemM} {l : List UnitM} (h : ∀ j, j < l.length → StepU M it l j) : RowsU M it l := by
 have hs : ∀ (d i : Nat) (x y : UnitM), l[i]? = some x → l[i + d + 1]? = some y → x.mach < y.mach := by
  intro d
  induction d with
  | zero =>
   intro i x y hx hy
   exact (h (i + 1) (List.getElem?_eq_some_iff.1 hy).1 y hy).2 (by omega) x (by simpa using hx)
  | succ d ih =>
   intro i x y hx hy
   have hl := (List.getElem?_eq_some_iff.1 hy).1
   have h1 := ih i x _ hx (List.getElem?_eq_getElem (by omega))
   have h2 := (h (i + (d + 1) + 1) hl y hy).2 (by omega) l[i + d + 1] (by rw [show i + (d + 1) + 1 - 1 = i + d + 1 by omega]; exact List.getElem?_eq_getElem (by omega))
   omega
 refine ⟨fun i j x y hij hx hy => hs (j - i - 1) i x y hx (by rw [show i + (j - i - 1) + 1 = j by omega]; exact hy), fun u hu => ?_⟩
 obtain ⟨i, hi, rfl⟩ := List.getElem_of_mem hu
 exact (h i hi _ (List.getElem?_eq_getElem hi)).1
theorem steps_of_rows {M : Mdl} {it : ItemM} {l : List UnitM} (h : RowsU M it l) (j : Nat) : StepU M it l j := fun u hu =>
 ⟨h.2 u (List.mem_of_getElem? hu), fun hj v hv => h.1 (j - 1) j v u (by omega) hv hu⟩
theorem item_cell {w : World} {b o n c : Nat} {l : List ItemM} (h : SlL w 7 encItem (.slice (some ⟨b, o, none⟩) n c) l) {k : Nat} {x : ItemM} (hx : l[k]? = some x) : ∀ w', Gr w w' → ItemCell w' b (o + k * 7) x := by
 have hn : l.length = n := by
  obtain ⟨p, c', hv, _⟩ := h.parts
  injection hv with _ h2 _
  exact h2.symm
 obtain ⟨b', o', y, hp, hy, hc⟩ := item_at h hn (show k < n from hn ▸ (List.getElem?_eq_some_iff.1 hx).1)
 injection hp with hp
 injection hp with e1 e2 _
 subst e1 e2
 obtain rfl : x = y := Option.some.inj (hx.symm.trans hy)
 exact hc
theorem no_len {M : Mdl} {L : List RowU} (h : L.length ≠ M.items.length) : ¬ PlcOK M (usOf L) := fun k => h (by rw [← usOf_len]; exact k.2.1)
theorem no_row {M : Mdl} {L : List RowU} {k : Nat} {x : RowU} {it : ItemM} (hx : L[k]? = some x) (hit : M.items[k]? = some it) (h : ¬ RowsU M it x.us) : ¬ PlcOK M (usOf L) := fun q => h (q.2.2 k _ it (usOf_at hx) hit)
theorem plc_all {M : Mdl} {L : List RowU} (hM : MdlOK M) (hl : L.length = M.items.length) (h : ∀ (j : Nat) (x : RowU) (it : ItemM), j < L.length → L[j]? = some x → M.items[j]? = some it → RowsU M it x.us) : PlcOK M (usOf L) := by
 refine ⟨hM, by rw [usOf_len, hl], fun i l it hli hit => ?_⟩
 have hi : i < L.length := by rw [hl]; exact (List.getElem?_eq_some_iff.1 hit).1
 obtain ⟨x, hx⟩ : ∃ x, L[i]? = some x := ⟨_, List.getElem?_eq_getElem hi⟩
 rw [usOf_at hx] at hli
 injection hli with hli
 subst hli
 exact h i x it hi hx hit
set_option maxRecDepth 100000 in
set_option maxHeartbeats 12800000 in
theorem plc_Valid (w : World) (P : Ptrs) (M : Mdl) (p : Option Addr) (c : Nat) (L : List RowU) (hm : MdlAt w P M) (hf : Few M) (ht : Tab w) (hp : PlcAt w p c L) (hk : FewK (usOf L)) :
  Calls Tryz.prog 14 #[.agg (mcells P M), plcV p c L] w (Ret w fun r _ => Tells (PlcOK M (usOf L)) r) := by
 have HT := Lib.hid ht
 have HF := Lib.hid hf
 have HK := Lib.hid hk
 clear ht hf hk
 have HM0 := Lib.hid hm
 have HP0 := Lib.hid hp
 have B0 := Cells.new w (mcells P M) 29
 have B1 := Cells.new (w.alloc (.cells (mcells P M) 29)) #[.slice p L.length c] 32
 simp only [World.size_alloc] at B1
 have m0 := mc0 B0.2 _ B1.1
 have m1 := mc1 B0.2 _ B1.1
 have m2 := mc2 B0.2 _ B1.1
 have m3 := mc3 B0.2 _ B1.1
 have m4 := mc4 B0.2 _ B1.1
 have m5 := mc5 B0.2 _ B1.1
 have m6 := mc6 B0.2 _ B1.1
 have m7 := mc7 B0.2 _ B1.1
 have m8 := mc8 B0.2 _ B1.1
 have m9 := mc9 B0.2 _ B1.1
 have m10 := mc10 B0.2 _ B1.1
 have p0 := B1.2.at 0 rfl
 have H := Lib.hid (show _ ∧ _ ∧ _ from ⟨B0.1.trans B1.1, B0.2.grow B1.1, B1.2⟩)
 clear B0 B1 hm hp
 unfold mcells at H m0 m1 m2 m3 m4 m5 m6 m7 m8 m9 m10 ⊢
 unfold plcV
 go_enter Tryz.func14, Tryz.ntmps14
 go_wp2_with fail
 clear m0 m1 m2 m3 m4 m5 m6 m7 m8 m9 m10 p0
 generalize w.heap.size + 1 = bp at H ⊢
 generalize w.heap.size = bm at H ⊢
 generalize (w.alloc _).alloc _ = W at H ⊢
 have G := Lib.hid (show Gr w W from H.out.1)
 have TM := Lib.hid (show Cells W bm (mcells P M) from H.out.2.1)
 have TP := Lib.hid (show Cells W bp #[.slice p L.length c] from H.out.2.2)
 have HM := Lib.hid (HM0.out.grow G.out)
 have HP := Lib.hid (HP0.out.grow G.out)
 clear H
 refine (cat_Valid W P M HM.out HF.out (HT.out.grow G.out)).mono ?_
 rintro _ w1 ⟨r, rfl, g1, h⟩
 have G := Lib.hid (G.out.trans g1)
 have TM := Lib.hid (TM.out.grow g1)
 have TP := Lib.hid (TP.out.grow g1)
 have HM := Lib.hid (HM.out.grow g1)
 have HP := Lib.hid (HP.out.grow g1)
 clear g1
 obtain ⟨p0, c0, p1, c1, p2, c2, p3, c3, p4, c4, p5, c5, p6, c6⟩ := P
 rcases h.cases with ⟨rfl, k1⟩ | ⟨rfl, k1⟩
 rotate_left
 ·have HV := Lib.hid k1
  clear h k1
  go_wp2_with fail
  try rw [Exit.noGoto_ret]
  go_ret
  exact ⟨_, rfl, G.out, Tells.no fun h => HV.out h.1⟩
 have HV := Lib.hid k1
 clear h k1
 have m0 := mc0 TM.out _ (Gr.refl _)
 have m1 := mc1 TM.out _ (Gr.refl _)
 have m2 := mc2 TM.out _ (Gr.refl _)
 have m3 := mc3 TM.out _ (Gr.refl _)
 have m4 := mc4 TM.out _ (Gr.refl _)
 have m5 := mc5 TM.out _ (Gr.refl _)
 have m6 := mc6 TM.out _ (Gr.refl _)
 have m7 := mc7 TM.out _ (Gr.refl _)
 have m8 := mc8 TM.out _ (Gr.refl _)
 have m9 := mc9 TM.out _ (Gr.refl _)
 have m10 := mc10 TM.out _ (Gr.refl _)
 try dsimp only at m0 m1 m2 m3 m4 m5 m6 m7 m8 m9 m10
 have s0 := TP.out.at 0 rfl
 by_cases e : L.length = M.items.length
 rotate_left
 ·have e0 : ((L.length : Int) != (M.items.length : Int)) = true := by simp; omega
  have E := Lib.hid e
  clear e
  go_wp2_with fail
  try rw [Exit.noGoto_ret]
  go_ret
  exact ⟨_, rfl, G.out, Tells.no (no_len E.out)⟩
 have e0 : ((L.length : Int) != (M.items.length : Int)) = false := by simp [e]
 have E := Lib.hid e
 clear e
 go_wp2_with fail
 clear m0 m1 m2 m3 m4 m5 m6 m7 m8 m9 m10
 clear s0 e0
 have hfew := HF.out.1
 have hL8 : L.length ≤ 24 := by rw [E.out]; omega
 go_loopw [25] (fun i w9 => ∃ k : Nat, i = .int .i64 (k : Int) ∧ k ≤ L.length ∧ (∀ (j : Nat) (x : RowU) (it : ItemM), j < k → L[j]? = some x → M.items[j]? = some it → RowsU M it x.us) ∧ Gr w1 w9) (fun i _ => L.length - (RowKit.intOf i).toNat)
 case atStart => exact ⟨0, rfl, Nat.zero_le _, fun j x it hj => by omega, Gr.refl _⟩
 case round =>
  obtain ⟨k, rfl, hk, hq, hg⟩ := hrel
  have HE := Lib.hid hq
  have GL := Lib.hid hg
  clear hq hg
  by_cases hlt : k < L.length
  ·have hlt' : (k : Int) < (L.length : Int) := by omega
   obtain ⟨b, o, x, rfl, hx, _⟩ := row_at (HP.out.rows.grow GL.out) rfl hlt
   have HX := Lib.hid hx
   obtain ⟨bi, oi, it, rfl, hit, _⟩ := item_at (HM.out.grow GL.out).items rfl (show k < M.items.length by have := E.out; omega)
   have HIT := Lib.hid hit
   have hxl : x.us.length ≤ 1000 := HK.out.2 x.us (List.mem_of_getElem? (usOf_at hx))
   have hon := HP.out.uns x (List.mem_of_getElem? hx)
   have c0 := row_cell (HP.out.rows.grow GL.out) hx _ (Gr.refl _)
   obtain ⟨px, cx, lx⟩ := x
   have HON := Lib.hid (show UnL w1 (.slice px lx.length cx) lx from hon)
   have hk1 : IntKind.i64.wrap ((k : Int) + 1) = (k : Int) + 1 := by rw [IntKind.wrap_i64]; omega
   dsimp only at c0 hxl
   clear hx hit hon
   go_wp2_with fail
   clear c0
   go_loopw [32] (fun i w9 => ∃ n : Nat, i = .int .i64 (n : Int) ∧ n ≤ lx.length ∧ (∀ j, j < n → StepU M it lx j) ∧ Gr w1 w9) (fun i _ => lx.length - (RowKit.intOf i).toNat)
   case atStart => exact ⟨0, rfl, Nat.zero_le _, fun j hj => by omega, GL.out⟩
   case round =>
    obtain ⟨n, rfl, hn, hq, hg⟩ := hrel
    have HN := Lib.hid hq
    have GN := Lib.hid hg
    clear hq hg
    by_cases hln : n < lx.length
    ·have hln' : (n : Int) < (lx.length : Int) := by omega
     obtain ⟨bu, ou, u, rfl, hu, hcu⟩ := unit_at (HON.out.grow GN.out) rfl hln
     have HUU := Lib.hid hu
     obtain ⟨d0, d1⟩ := hcu _ (Gr.refl _)
     have B := Cells.new wr #[.int .i64 u.mach, .int .i64 u.st] 69
     have a0 := B.2.at 0 rfl
     have a1 := B.2.at 1 rfl
     have m5 := mc5 (TM.out.grow GN.out) _ B.1
     have i1 := (item_cell (HM.out.grow GN.out).items HIT.out _ B.1).2.1
     dsimp only at m5
     have GN := Lib.hid (GN.out.trans B.1)
     have T8 := Lib.hid B.2
     have hni : (k : Int) < (M.items.length : Int) := by have := E.out; omega
     clear hu hcu B
     by_cases e2 : u.st = 2
     ·have e20 : (u.st == 2) = true := by simpa using e2
      obtain ⟨tk, htk⟩ : ∃ t, (it.kind == 2) = t := ⟨_, rfl⟩
      have HTK := Lib.hid htk
      have HS2 := Lib.hid e2
      clear htk e2
      go_wp2_with fail
      rw [HTK.out]
      clear d0 d1 a0 a1 m5 i1 e20
      generalize wr.heap.size = b8 at T8 ⊢
      generalize wr.alloc _ = W8 at T8 GN ⊢
      have a0 := T8.out.c 0 rfl
      have a1 := T8.out.c 1 rfl
      have m3 := mc3 (TM.out.grow GN.out)
      dsimp only at m3
      have g0 : Gr W8 W8.drew := (Gr.refl _).drew
      refine wp_region_fast [(0, true), (1, true), (2, true), (3, true), (4, true), (5, true), (6, true), (7, true), (8, true), (9, true), (10, true), (11, true), (12, true), (13, true), (14, true), (15, true), (16, true), (17, true), (18, true), (19, true), (20, true), (21, true), (22, true), (23, true), (24, true), (25, true), (26, true), (27, true), (28, true), (29, true), (30, true), (31, true), (32, true), (33, true), (34, true), (35, true), (36, true), (37, true), (38, true), (39, true)] (by kernel_rfl) (by kernel_rfl) rfl (by kernel_rfl) (fun _ _ d _ _ h => by cases d <;> exact h) ?_
      by_cases h1 : u.mach < 1
      ·have H1 := Lib.hid h1
       repeat (first | (refine wpE_skip rfl rfl ?_; go_simp) | (refine wpE_readB (v := ?_) g0 rfl rfl (fun w' hg => ?_) (fun K hK => ?_); rotate_left; (go_simp; rfl); go_simp; refine hK _ _ ?_; clear hK K))
       refine wpE_nil ?_
       have G := Lib.hid ((G.out.trans GN.out).trans g0)
       clear a0 a1 m3 g0
       go_wp2_with fail
       try rw [Exit.noGoto_ret]
       go_ret
       exact ⟨_, rfl, G.out, Tells.no (no_row HX.out HIT.out (fun q => absurd (steps_of_rows q _ u HUU.out) (by rintro ⟨⟨⟨z1, z2⟩, z3⟩, z4⟩; have h1 := H1.out; omega)))⟩
      by_cases h2 : (M.machs.length : Int) < u.mach
      ·have H1 := Lib.hid h2
       repeat (first | (refine wpE_skip rfl rfl ?_; go_simp) | (refine wpE_readB (v := ?_) g0 rfl rfl (fun w' hg => ?_) (fun K hK => ?_); rotate_left; (go_simp; rfl); go_simp; refine hK _ _ ?_; clear hK K))
       refine wpE_nil ?_
       have G := Lib.hid ((G.out.trans GN.out).trans g0)
       clear a0 a1 m3 g0
       go_wp2_with fail
       try rw [Exit.noGoto_ret]
       go_ret
       exact ⟨_, rfl, G.out, Tells.no (no_row HX.out HIT.out (fun q => absurd (steps_of_rows q _ u HUU.out) (by rintro ⟨⟨⟨z1, z2⟩, z3⟩, z4⟩; have h1 := H1.out; omega)))⟩
      have HMM := Lib.hid (show 1 ≤ u.mach ∧ u.mach ≤ (M.machs.length : Int) by omega)
      have q0 : (u.st != 0) = true := by rw [HS2.out]; rfl
      have q1 : (u.st != 1) = true := by rw [HS2.out]; rfl
      rcases Nat.eq_zero_or_pos n with hn0 | hn0
      ·subst hn0
       cases tk
       ·have H1 := Lib.hid trivial
        repeat (first | (refine wpE_skip rfl rfl ?_; go_simp) | (refine wpE_readB (v := ?_) g0 rfl rfl (fun w' hg => ?_) (fun K hK => ?_); rotate_left; (go_simp; rfl); go_simp; refine hK _ _ ?_; clear hK K))
        refine wpE_nil ?_
        have G := Lib.hid ((G.out.trans GN.out).trans g0)
        clear a0 a1 m3 g0
        go_wp2_with fail
        try rw [Exit.noGoto_ret]
        go_ret
        exact ⟨_, rfl, G.out, Tells.no (no_row HX.out HIT.out (fun q => absurd (steps_of_rows q _ u HUU.out) (by rintro ⟨⟨⟨z1, z2⟩, z3⟩, z4⟩; have h1 := H1.out; have h3 := HS2.out; have h2 := HTK.out; simp only [beq_eq_false_iff_ne, ne_eq] at h2; omega)))⟩
       ·have H1 := Lib.hid trivial
        have HST := Lib.hid (show u.st = 0 ∨ u.st = 1 ∨ (u.st = 2 ∧ it.kind = 2) from .inr (.inr ⟨HS2.out, by have h2 := HTK.out; simpa using h2⟩))
        repeat (first | (refine wpE_skip rfl rfl ?_; go_simp) | (refine wpE_readB (v := ?_) g0 rfl rfl (fun w' hg => ?_) (fun K hK => ?_); rotate_left; (go_simp; rfl); go_simp; refine hK _ _ ?_; clear hK K))
        refine wpE_nil ?_
        have GM := Lib.hid (GN.out.trans g0)
        clear a0 a1 m3 g0
        go_wp2_with fail
        refine ⟨⟨0 + 1, by go_num, by omega, fun j hj => ?_, GM.out⟩, by simp [RowKit.intOf]; omega⟩
        by_cases h : j = 0
        ·subst h
         intro y hy
         obtain rfl : y = u := Option.some.inj (hy.symm.trans HUU.out)
         exact ⟨⟨HMM.out, HST.out⟩, fun h => by omega⟩
        ·exact HN.out j (by omega)
      ·obtain ⟨n, rfl⟩ : ∃ j, n = j + 1 := ⟨n - 1, by omega⟩
       obtain ⟨_, _, v, hbo, hv, hcv⟩ := unit_at (HON.out.grow GN.out) rfl (show n < lx.length by omega)
       cases hbo
       have v0 := fun w' g => (hcv w' g).1
       have HVV := Lib.hid hv
       have hw1 : IntKind.i64.wrap ((n : Int) + 1 - 1) = (n : Int) := by rw [IntKind.wrap_i64]; omega
       have hnl : (n : Int) < (lx.length : Int) := by omega
       have hw0 : IntKind.i64.wrap (n : Int) = (n : Int) := by rw [IntKind.wrap_i64]; omega
       clear hv hcv
       by_cases h3 : u.mach ≤ v.mach
       ·have H1 := Lib.hid h3
        repeat (first | (refine wpE_skip rfl rfl ?_; go_simp) | (refine wpE_readB (v := ?_) g0 rfl rfl (fun w' hg => ?_) (fun K hK => ?_); rotate_left; (go_simp; rfl); go_simp; refine hK _ _ ?_; clear hK K))
        refine wpE_nil ?_
        have G := Lib.hid ((G.out.trans GN.out).trans g0)
        clear a0 a1 m3 g0
        go_wp2_with fail
        try rw [Exit.noGoto_ret]
        go_ret
        exact ⟨_, rfl, G.out, Tells.no (no_row HX.out HIT.out (fun q => absurd (steps_of_rows q _ u HUU.out) (by rintro ⟨⟨⟨z1, z2⟩, z3⟩, z4⟩; have h1 := H1.out; have := z4 (by omega) v HVV.out; omega)))⟩
       have HLT := Lib.hid (show v.mach < u.mach by omega)
       cases tk
       ·have H1 := Lib.hid trivial
        repeat (first | (refine wpE_skip rfl rfl ?_; go_simp) | (refine wpE_readB (v := ?_) g0 rfl rfl (fun w' hg => ?_) (fun K hK => ?_); rotate_left; (go_simp; rfl); go_simp; refine hK _ _ ?_; clear hK K))
        refine wpE_nil ?_
        have G := Lib.hid ((G.out.trans GN.out).trans g0)
        clear a0 a1 m3 g0
        go_wp2_with fail
        try rw [Exit.noGoto_ret]
        go_ret
        exact ⟨_, rfl, G.out, Tells.no (no_row HX.out HIT.out (fun q => absurd (steps_of_rows q _ u HUU.out) (by rintro ⟨⟨⟨z1, z2⟩, z3⟩, z4⟩; have h1 := H1.out; have h3 := HS2.out; have h2 := HTK.out; simp only [beq_eq_false_iff_ne, ne_eq] at h2; omega)))⟩
       ·have H1 := Lib.hid trivial
        have HST := Lib.hid (show u.st = 0 ∨ u.st = 1 ∨ (u.st = 2 ∧ it.kind = 2) from .inr (.inr ⟨HS2.out, by have h2 := HTK.out; simpa using h2⟩))
        repeat (first | (refine wpE_skip rfl rfl ?_; go_simp) | (refine wpE_readB (v := ?_) g0 rfl rfl (fun w' hg => ?_) (fun K hK => ?_); rotate_left; (go_simp; rfl); go_simp; refine hK _ _ ?_; clear hK K))
        refine wpE_nil ?_
        have GM := Lib.hid (GN.out.trans g0)
        clear a0 a1 m3 g0
        go_wp2_with fail
        refine ⟨⟨(n + 1) + 1, by go_num, by omega, fun j hj => ?_, GM.out⟩, by simp [RowKit.intOf]; omega⟩
        by_cases h : j = (n + 1)
        ·subst h
         intro y hy
         obtain rfl : y = u := Option.some.inj (hy.symm.trans HUU.out)
         exact ⟨⟨HMM.out, HST.out⟩, fun _ z hz => by obtain rfl : z = v := Option.some.inj (hz.symm.trans HVV.out); exact HLT.out⟩
        ·exact HN.out j (by omega)
     ·have e20 : (u.st == 2) = false := by simpa using e2
      have HS2 := Lib.hid e2
      clear e2
      go_wp2_with fail
      clear d0 d1 a0 a1 m5 i1 e20
      generalize wr.heap.size = b8 at T8 ⊢
      generalize wr.alloc _ = W8 at T8 GN ⊢
      have a0 := T8.out.c 0 rfl
      have a1 := T8.out.c 1 rfl
      have m3 := mc3 (TM.out.grow GN.out)
      dsimp only at m3
      have g0 : Gr W8 W8.drew := (Gr.refl _).drew
      refine wp_region_fast [(0, true), (1, true), (2, true), (3, true), (4, true), (5, true), (6, true), (7, true), (8, true), (9, true), (10, true), (11, true), (12, true), (13, true), (14, true), (15, true), (16, true), (17, true), (18, true), (19, true), (20, true), (21, true), (22, true), (23, true), (24, true), (25, true), (26, true), (27, true), (28, true), (29, true), (30, true), (31, true), (32, true), (33, true), (34, true), (35, true), (36, true), (37, true), (38, true), (39, true)] (by kernel_rfl) (by kernel_rfl) rfl (by kernel_rfl) (fun _ _ d _ _ h => by cases d <;> exact h) ?_
      by_cases h1 : u.mach < 1
      ·have H1 := Lib.hid h1
       repeat (first | (refine wpE_skip rfl rfl ?_; go_simp) | (refine wpE_readB (v := ?_) g0 rfl rfl (fun w' hg => ?_) (fun K hK => ?_); rotate_left; (go_simp; rfl); go_simp; refine hK _ _ ?_; clear hK K))
       refine wpE_nil ?_
       have G := Lib.hid ((G.out.trans GN.out).trans g0)
       clear a0 a1 m3 g0
       go_wp2_with fail
       try rw [Exit.noGoto_ret]
       go_ret
       exact ⟨_, rfl, G.out, Tells.no (no_row HX.out HIT.out (fun q => absurd (steps_of_rows q _ u HUU.out) (by rintro ⟨⟨⟨z1, z2⟩, z3⟩, z4⟩; have h1 := H1.out; omega)))⟩
      by_cases h2 : (M.machs.length : Int) < u.mach
      ·have H1 := Lib.hid h2
       repeat (first | (refine wpE_skip rfl rfl ?_; go_simp) | (refine wpE_readB (v := ?_) g0 rfl rfl (fun w' hg => ?_) (fun K hK => ?_); rotate_left; (go_simp; rfl); go_simp; refine hK _ _ ?_; clear hK K))
       refine wpE_nil ?_
       have G := Lib.hid ((G.out.trans GN.out).trans g0)
       clear a0 a1 m3 g0
       go_wp2_with fail
       try rw [Exit.noGoto_ret]
       go_ret
       exact ⟨_, rfl, G.out, Tells.no (no_row HX.out HIT.out (fun q => absurd (steps_of_rows q _ u HUU.out) (by rintro ⟨⟨⟨z1, z2⟩, z3⟩, z4⟩; have h1 := H1.out; omega)))⟩
      have HMM := Lib.hid (show 1 ≤ u.mach ∧ u.mach ≤ (M.machs.length : Int) by omega)
      rcases Nat.eq_zero_or_pos n with hn0 | hn0
      ·subst hn0
       obtain ⟨z0, hz0⟩ : ∃ t, (u.st != 0) = t := ⟨_, rfl⟩
       cases z0
       ·have H1 := Lib.hid hz0
        have HST := Lib.hid (show u.st = 0 ∨ u.st = 1 ∨ (u.st = 2 ∧ it.kind = 2) from .inl (by simpa using hz0))
        repeat (first | (refine wpE_skip rfl rfl ?_; go_simp) | (refine wpE_readB (v := ?_) g0 rfl rfl (fun w' hg => ?_) (fun K hK => ?_); rotate_left; (go_simp; rfl); go_simp; refine hK _ _ ?_; clear hK K))
        refine wpE_nil ?_
        have GM := Lib.hid (GN.out.trans g0)
        clear a0 a1 m3 g0
        go_wp2_with fail
        refine ⟨⟨0 + 1, by go_num, by omega, fun j hj => ?_, GM.out⟩, by simp [RowKit.intOf]; omega⟩
        by_cases h : j = 0
        ·subst h
         intro y hy
         obtain rfl : y = u := Option.some.inj (hy.symm.trans HUU.out)
         exact ⟨⟨HMM.out, HST.out⟩, fun h => by omega⟩
        ·exact HN.out j (by omega)
       obtain ⟨z1, hz1⟩ : ∃ t, (u.st != 1) = t := ⟨_, rfl⟩
       cases z1
       ·have H1 := Lib.hid hz1
        have HST := Lib.hid (show u.st = 0 ∨ u.st = 1 ∨ (u.st = 2 ∧ it.kind = 2) from .inr (.inl (by simpa using hz1)))
        repeat (first | (refine wpE_skip rfl rfl ?_; go_simp) | (refine wpE_readB (v := ?_) g0 rfl rfl (fun w' hg => ?_) (fun K hK => ?_); rotate_left; (go_simp; rfl); go_simp; refine hK _ _ ?_; clear hK K))
        refine wpE_nil ?_
        have GM := Lib.hid (GN.out.trans g0)
        clear a0 a1 m3 g0
        go_wp2_with fail
        refine ⟨⟨0 + 1, by go_num, by omega, fun j hj => ?_, GM.out⟩, by simp [RowKit.intOf]; omega⟩
        by_cases h : j = 0
        ·subst h
         intro y hy
         obtain rfl : y = u := Option.some.inj (hy.symm.trans HUU.out)
         exact ⟨⟨HMM.out, HST.out⟩, fun h => by omega⟩
        ·exact HN.out j (by omega)
       have s0 : ¬ u.st = 0 := by simpa using hz0
       have s1 : ¬ u.st = 1 := by simpa using hz1
       ·have H1 := Lib.hid (And.intro s0 s1)
        repeat (first | (refine wpE_skip rfl rfl ?_; go_simp) | (refine wpE_readB (v := ?_) g0 rfl rfl (fun w' hg => ?_) (fun K hK => ?_); rotate_left; (go_simp; rfl); go_simp; refine hK _ _ ?_; clear hK K))
        refine wpE_nil ?_
        have G := Lib.hid ((G.out.trans GN.out).trans g0)
        clear a0 a1 m3 g0
        go_wp2_with fail
        try rw [Exit.noGoto_ret]
        go_ret
        exact ⟨_, rfl, G.out, Tells.no (no_row HX.out HIT.out (fun q => absurd (steps_of_rows q _ u HUU.out) (by rintro ⟨⟨⟨z1, z2⟩, z3⟩, z4⟩; have h1 := H1.out; have h2 := HS2.out; omega)))⟩
      ·obtain ⟨n, rfl⟩ : ∃ j, n = j + 1 := ⟨n - 1, by omega⟩
       obtain ⟨_, _, v, hbo, hv, hcv⟩ := unit_at (HON.out.grow GN.out) rfl (show n < lx.length by omega)
       cases hbo
       have v0 := fun w' g => (hcv w' g).1
       have HVV := Lib.hid hv
       have hw1 : IntKind.i64.wrap ((n : Int) + 1 - 1) = (n : Int) := by rw [IntKind.wrap_i64]; omega
       have hnl : (n : Int) < (lx.length : Int) := by omega
       have hw0 : IntKind.i64.wrap (n : Int) = (n : Int) := by rw [IntKind.wrap_i64]; omega
       clear hv hcv
       by_cases h3 : u.mach ≤ v.mach
       ·have H1 := Lib.hid h3
        repeat (first | (refine wpE_skip rfl rfl ?_; go_simp) | (refine wpE_readB (v := ?_) g0 rfl rfl (fun w' hg => ?_) (fun K hK => ?_); rotate_left; (go_simp; rfl); go_simp; refine hK _ _ ?_; clear hK K))
        refine wpE_nil ?_
        have G := Lib.hid ((G.out.trans GN.out).trans g0)
        clear a0 a1 m3 g0
        go_wp2_with fail
        try rw [Exit.noGoto_ret]
        go_ret
        exact ⟨_, rfl, G.out, Tells.no (no_row HX.out HIT.out (fun q => absurd (steps_of_rows q _ u HUU.out) (by rintro ⟨⟨⟨z1, z2⟩, z3⟩, z4⟩; have h1 := H1.out; have := z4 (by omega) v HVV.out; omega)))⟩
       have HLT := Lib.hid (show v.mach < u.mach by omega)
       obtain ⟨z0, hz0⟩ : ∃ t, (u.st != 0) = t := ⟨_, rfl⟩
       cases z0
       ·have H1 := Lib.hid hz0
        have HST := Lib.hid (show u.st = 0 ∨ u.st = 1 ∨ (u.st = 2 ∧ it.kind = 2) from .inl (by simpa using hz0))
        repeat (first | (refine wpE_skip rfl rfl ?_; go_simp) | (refine wpE_readB (v := ?_) g0 rfl rfl (fun w' hg => ?_) (fun K hK => ?_); rotate_left; (go_simp; rfl); go_simp; refine hK _ _ ?_; clear hK K))
        refine wpE_nil ?_
        have GM := Lib.hid (GN.out.trans g0)
        clear a0 a1 m3 g0
        go_wp2_with fail
        refine ⟨⟨(n + 1) + 1, by go_num, by omega, fun j hj => ?_, GM.out⟩, by simp [RowKit.intOf]; omega⟩
        by_cases h : j = (n + 1)
        ·subst h
         intro y hy
         obtain rfl : y = u := Option.some.inj (hy.symm.trans HUU.out)
         exact ⟨⟨HMM.out, HST.out⟩, fun _ z hz => by obtain rfl : z = v := Option.some.inj (hz.symm.trans HVV.out); exact HLT.out⟩
        ·exact HN.out j (by omega)
       obtain ⟨z1, hz1⟩ : ∃ t, (u.st != 1) = t := ⟨_, rfl⟩
       cases z1
       ·have H1 := Lib.hid hz1
        have HST := Lib.hid (show u.st = 0 ∨ u.st = 1 ∨ (u.st = 2 ∧ it.kind = 2) from .inr (.inl (by simpa using hz1)))
        repeat (first | (refine wpE_skip rfl rfl ?_; go_simp) | (refine wpE_readB (v := ?_) g0 rfl rfl (fun w' hg => ?_) (fun K hK => ?_); rotate_left; (go_simp; rfl); go_simp; refine hK _ _ ?_; clear hK K))
        refine wpE_nil ?_
        have GM := Lib.hid (GN.out.trans g0)
        clear a0 a1 m3 g0
        go_wp2_with fail
        refine ⟨⟨(n + 1) + 1, by go_num, by omega, fun j hj => ?_, GM.out⟩, by simp [RowKit.intOf]; omega⟩
        by_cases h : j = (n + 1)
        ·subst h
         intro y hy
         obtain rfl : y = u := Option.some.inj (hy.symm.trans HUU.out)
         exact ⟨⟨HMM.out, HST.out⟩, fun _ z hz => by obtain rfl : z = v := Option.some.inj (hz.symm.trans HVV.out); exact HLT.out⟩
        ·exact HN.out j (by omega)
       have s0 : ¬ u.st = 0 := by simpa using hz0
       have s1 : ¬ u.st = 1 := by simpa using hz1
       ·have H1 := Lib.hid (And.intro s0 s1)
        repeat (first | (refine wpE_skip rfl rfl ?_; go_simp) | (refine wpE_readB (v := ?_) g0 rfl rfl (fun w' hg => ?_) (fun K hK => ?_); rotate_left; (go_simp; rfl); go_simp; refine hK _ _ ?_; clear hK K))
        refine wpE_nil ?_
        have G := Lib.hid ((G.out.trans GN.out).trans g0)
        clear a0 a1 m3 g0
        go_wp2_with fail
        try rw [Exit.noGoto_ret]
        go_ret
        exact ⟨_, rfl, G.out, Tells.no (no_row HX.out HIT.out (fun q => absurd (steps_of_rows q _ u HUU.out) (by rintro ⟨⟨⟨z1, z2⟩, z3⟩, z4⟩; have h1 := H1.out; have h2 := HS2.out; omega)))⟩
    ·obtain rfl : n = lx.length := by omega
     have hk1 : IntKind.i64.wrap ((k : Int) + 1) = (k : Int) + 1 := by rw [IntKind.wrap_i64]; omega
     go_wp2_with fail
     refine ⟨⟨k + 1, by go_num, by omega, fun j y it' hj hy hit' => ?_, GN.out⟩, by simp [RowKit.intOf]; omega⟩
     by_cases h : j = k
     ·subst h
      obtain rfl : y = _ := Option.some.inj (hy.symm.trans HX.out)
      obtain rfl : it' = it := Option.some.inj (hit'.symm.trans HIT.out)
      exact rows_of_steps HN.out
     ·exact HE.out j y it' (by omega) hy hit'
  ·obtain rfl : k = L.length := by omega
   go_wp2_with fail
   go_ret
   exact ⟨_, rfl, G.out.trans GL.out, Tells.yes (plc_all HV.out E.out HE.out)⟩
end Go.Proofs.YtnlocdijdfclcaaGreatDoor
namespace Go.Proofs.YtnlocdijdfclcaaGreatDoor
open Go.RowKit Go.Lib Lex
set_option linter.unusedVariables false
set_option linter.unusedSimpArgs false

set_option maxRecDepth 100000 in
set_option maxHeartbeats 12800000 in
theorem ref_Valid20w (w : World) (P : Ptrs) (M : Mdl) (p : Option Addr) (c : Nat) (L : List RowU) (hm : MdlAt w P M) (hf : Few M) (hp : PlcAt w p c L) :
  Calls Tryz.prog 13 #[.agg (mcells P M), plcV p c L] w (Ret w fun r _ => Tells (PlcOK M (usOf L)) r) := by
 have HF := Lib.hid hf
 clear hf
 have HM0 := Lib.hid hm
 have HP0 := Lib.hid hp
 have B0 := Cells.new w (mcells P M) 29
 have B1 := Cells.new (w.alloc (.cells (mcells P M) 29)) #[.slice p L.length c] 32
 simp only [World.size_alloc] at B1
 have m0 := mc0 B0.2 _ B1.1
 have m1 := mc1 B0.2 _ B1.1
 have m2 := mc2 B0.2 _ B1.1
 have m3 := mc3 B0.2 _ B1.1
 have m4 := mc4 B0.2 _ B1.1
 have m5 := mc5 B0.2 _ B1.1
 have m6 := mc6 B0.2 _ B1.1
 have m7 := mc7 B0.2 _ B1.1
 have m8 := mc8 B0.2 _ B1.1
 have m9 := mc9 B0.2 _ B1.1
 have m10 := mc10 B0.2 _ B1.1
 have p0 := B1.2.at 0 rfl
 have H := Lib.hid (show _ ∧ _ ∧ _ from ⟨B0.1.trans B1.1, B0.2.grow B1.1, B1.2⟩)
 clear B0 B1 hm hp
 unfold mcells at H m0 m1 m2 m3 m4 m5 m6 m7 m8 m9 m10 ⊢
 unfold plcV
 go_enter Tryz.func13, Tryz.ntmps13
 go_wp2_with fail
 clear m0 m1 m2 m3 m4 m5 m6 m7 m8 m9 m10 p0
 generalize w.heap.size + 1 = bp at H ⊢
 generalize w.heap.size = bm at H ⊢
 generalize (w.alloc _).alloc _ = W at H ⊢
 have G := Lib.hid (show Gr w W from H.out.1)
 have TM := Lib.hid (show Cells W bm (mcells P M) from H.out.2.1)
 have TP := Lib.hid (show Cells W bp #[.slice p L.length c] from H.out.2.2)
 have HM := Lib.hid (HM0.out.grow G.out)
 have HP := Lib.hid (HP0.out.grow G.out)
 clear H
 refine (ref_Valid15 W P M HM.out HF.out).mono ?_
 rintro _ w1 ⟨r, rfl, g1, h⟩
 have G := Lib.hid (G.out.trans g1)
 have TM := Lib.hid (TM.out.grow g1)
 have TP := Lib.hid (TP.out.grow g1)
 have HM := Lib.hid (HM.out.grow g1)
 have HP := Lib.hid (HP.out.grow g1)
 clear g1
 obtain ⟨p0, c0, p1, c1, p2, c2, p3, c3, p4, c4, p5, c5, p6, c6⟩ := P
 rcases h.cases with ⟨rfl, k1⟩ | ⟨rfl, k1⟩
 rotate_left
 ·have HV := Lib.hid k1
  clear h k1
  go_wp2_with fail
  try rw [Exit.noGoto_ret]
  go_ret
  exact ⟨_, rfl, G.out, Tells.no fun h => HV.out h.1⟩
 have HV := Lib.hid k1
 clear h k1
 have m0 := mc0 TM.out _ (Gr.refl _)
 have m1 := mc1 TM.out _ (Gr.refl _)
 have m2 := mc2 TM.out _ (Gr.refl _)
 have m3 := mc3 TM.out _ (Gr.refl _)
 have m4 := mc4 TM.out _ (Gr.refl _)
 have m5 := mc5 TM.out _ (Gr.refl _)
 have m6 := mc6 TM.out _ (Gr.refl _)
 have m7 := mc7 TM.out _ (Gr.refl _)
 have m8 := mc8 TM.out _ (Gr.refl _)
 have m9 := mc9 TM.out _ (Gr.refl _)
 have m10 := mc10 TM.out _ (Gr.refl _)
 try dsimp only at m0 m1 m2 m3 m4 m5 m6 m7 m8 m9 m10
 have s0 := TP.out.at 0 rfl
 by_cases e : L.length = M.items.length
 rotate_left
 ·have e0 : ((L.length : Int) != (M.items.length : Int)) = true := by simp; omega
  have E := Lib.hid e
  clear e
  go_wp2_with fail
  try rw [Exit.noGoto_ret]
  go_ret
  exact ⟨_, rfl, G.out, Tells.no (no_len E.out)⟩
 have e0 : ((L.length : Int) != (M.items.length : Int)) = false := by simp [e]
 have E := Lib.hid e
 clear e
 go_wp2_with fail
 clear m0 m1 m2 m3 m4 m5 m6 m7 m8 m9 m10
 clear s0 e0
 have hfew := HF.out.1
 have hL8 : L.length ≤ 24 := by rw [E.out]; omega
 go_loopw [5] (fun i w9 => ∃ k : Nat, i = .int .i64 (k : Int) ∧ k ≤ L.length ∧ (∀ (j : Nat) (x : RowU) (it : ItemM), j < k → L[j]? = some x → M.items[j]? = some it → RowsU M it x.us) ∧ Gr w1 w9) (fun i _ => L.length - (RowKit.intOf i).toNat)
 case atStart => exact ⟨0, rfl, Nat.zero_le _, fun j x it hj => by omega, Gr.refl _⟩
 case round =>
  obtain ⟨k, rfl, hk, hq, hg⟩ := hrel
  have HE := Lib.hid hq
  have GL := Lib.hid hg
  clear hq hg
  have s0 := (TP.out.grow GL.out).at 0 rfl
  by_cases hlt : k < L.length
  ·have hlt' : (k : Int) < (L.length : Int) := by omega
   obtain ⟨b, o, x, rfl, hx, _⟩ := row_at (HP.out.rows.grow GL.out) rfl hlt
   have HX := Lib.hid hx
   obtain ⟨bi, oi, it, rfl, hit, _⟩ := item_at (HM.out.grow GL.out).items rfl (show k < M.items.length by have := E.out; omega)
   have HIT := Lib.hid hit
   have hxl : x.us.length ≤ 17592186044416 := HP.out.ubig x (List.mem_of_getElem? hx)
   have hon := HP.out.uns x (List.mem_of_getElem? hx)
   obtain ⟨px, cx, lx⟩ := x
   have HON := Lib.hid (show UnL w1 (.slice px lx.length cx) lx from hon)
   have hk1 : IntKind.i64.wrap ((k : Int) + 1) = (k : Int) + 1 := by rw [IntKind.wrap_i64]; omega
   dsimp only at hxl
   clear hx hit hon
   go_wp2_with fail
   clear s0
   go_loopw [6] (fun i w9 => ∃ n : Nat, i = .int .i64 (n : Int) ∧ n ≤ lx.length ∧ (∀ j, j < n → StepU M it lx j) ∧ Gr w1 w9) (fun i _ => lx.length - (RowKit.intOf i).toNat)
   case atStart => exact ⟨0, rfl, Nat.zero_le _, fun j hj => by omega, GL.out⟩
   case round =>
    obtain ⟨n, rfl, hn, hq, hg⟩ := hrel
    have HN := Lib.hid hq
    have GN := Lib.hid hg
    clear hq hg
    have s0 := (TP.out.grow GN.out).at 0 rfl
    have r0 := row_cell (HP.out.rows.grow GN.out) HX.out _ (Gr.refl _)
    dsimp only at r0
    by_cases hln : n < lx.length
    ·have hln' : (n : Int) < (lx.length : Int) := by omega
     obtain ⟨bu, ou, u, rfl, hu, hcu⟩ := unit_at (HON.out.grow GN.out) rfl hln
     have HUU := Lib.hid hu
     obtain ⟨d0, d1⟩ := hcu _ (Gr.refl _)
     have B := Cells.new wr #[.int .i64 u.mach, .int .i64 u.st] 69
     have GN := Lib.hid (GN.out.trans B.1)
     have T8 := Lib.hid B.2
     clear hu hcu B
     go_wp2_with fail
     clear d0 d1 s0 r0
     generalize wr.heap.size = b8 at T8 ⊢
     generalize wr.alloc _ = W8 at T8 GN ⊢
     have a0 := T8.out.c 0 rfl
     have a1 := T8.out.c 1 rfl
     have m3 := mc3 (TM.out.grow GN.out)
     have s0 := (TP.out.grow GN.out).c 0 rfl
     have r0 := row_cell (HP.out.rows.grow GN.out) HX.out
     dsimp only at m3 r0
     have g0 : Gr W8 W8.drew := (Gr.refl _).drew
     have G9 := Lib.hid g0
     refine wp_region_fast [(0, true), (1, true), (2, true), (3, true), (4, true), (5, false), (6, true), (7, true), (8, true), (9, true), (10, true), (11, true), (12, true), (13, true), (14, true), (15, true), (16, true), (17, true), (18, true), (19, true), (20, true), (21, true), (22, true), (23, true), (24, true), (25, true)] (by kernel_rfl) (by kernel_rfl) rfl (by kernel_rfl) (fun _ _ d _ _ h => by cases d <;> exact h) ?_
     repeat (refine wpE_readB (v := ?_) g0 rfl rfl (fun w' hg => ?_) (fun K hK => ?_); rotate_left; (go_simp; rfl); go_simp; refine hK _ _ ?_; clear hK K)
     refine wpE_fn (args := ?_) rfl rfl rfl rfl rfl rfl (by kernel_rfl) (by kernel_rfl) ?_ (fun K hK => ?_)
     rotate_left
     ·go_simp; rfl
     refine (ref_Exists _ _ _).mono ?_
     rintro _ _ ⟨⟨v1, rfl, h1⟩, rfl⟩
     refine ⟨_, rfl, (Gr.refl _), ?_⟩
     go_simp
     refine hK _ _ ?_
     clear hK K
     rcases h1.cases with ⟨rfl, k1⟩ | ⟨rfl, k1⟩
     rotate_left
     ·have H1 := Lib.hid k1
      repeat (first | (refine wpE_skip rfl rfl ?_; go_simp) | (refine wpE_readB (v := ?_) g0 rfl rfl (fun w' hg => ?_) (fun K hK => ?_); rotate_left; (go_simp; rfl); go_simp; refine hK _ _ ?_; clear hK K))
      refine wpE_nil ?_
      have G := Lib.hid ((G.out.trans GN.out).trans g0)
      clear a0 a1 m3 r0 s0 g0
      go_wp2_with fail
      try rw [Exit.noGoto_ret]
      go_ret
      exact ⟨_, rfl, G.out, Tells.no (no_row HX.out HIT.out (fun q => absurd (steps_of_rows q _ u HUU.out) (by rintro ⟨⟨⟨z1, z2⟩, z3⟩, z4⟩; have h1 := H1.out; exact h1 ⟨z1, z2⟩)))⟩
     have HMM := Lib.hid (show 1 ≤ u.mach ∧ u.mach ≤ (M.machs.length : Int) from k1)
     clear h1 k1
     rcases Nat.eq_zero_or_pos n with hn0 | hn0
     ·subst hn0
      repeat (first | (refine wpE_skip rfl rfl ?_; go_simp) | (refine wpE_readB (v := ?_) g0 rfl rfl (fun w' hg => ?_) (fun K hK => ?_); rotate_left; (go_simp; rfl); go_simp; refine hK _ _ ?_; clear hK K))
      refine wpE_nil ?_
      have GN := Lib.hid (GN.out.trans g0)
      clear a0 a1 m3 r0 s0 g0
      have T8 := Lib.hid (T8.out.grow G9.out)
      have a1 := T8.out.at 1 rfl
      have m5 := mc5 (TM.out.grow GN.out) _ (Gr.refl _)
      have i1 := (item_cell (HM.out.grow GN.out).items HIT.out _ (Gr.refl _)).2.1
      dsimp only at m5
      have hni : (k : Int) < (M.items.length : Int) := by have := E.out; omega
      obtain ⟨z0, hz0⟩ : ∃ t, (u.st != 0) = t := ⟨_, rfl⟩
      cases z0
      ·have HST := Lib.hid (show u.st = 0 ∨ u.st = 1 ∨ (u.st = 2 ∧ it.kind = 2) from .inl (by simpa using hz0))
       have hn1 : IntKind.i64.wrap (((0 : Nat) : Int) + 1) = ((0 : Nat) : Int) + 1 := by rw [IntKind.wrap_i64]; omega
       go_wp2_with fail
       refine ⟨⟨0 + 1, by go_num, by omega, fun j hj => ?_, GN.out⟩, by simp [RowKit.intOf]; omega⟩
       by_cases h : j = 0
       ·subst h
        intro y hy
        obtain rfl : y = u := Option.some.inj (hy.symm.trans HUU.out)
        exact ⟨⟨HMM.out, HST.out⟩, fun h => by omega⟩
       ·exact HN.out j (by omega)
      obtain ⟨z1, hz1⟩ : ∃ t, (u.st != 1) = t := ⟨_, rfl⟩
      cases z1
      ·have HST := Lib.hid (show u.st = 0 ∨ u.st = 1 ∨ (u.st = 2 ∧ it.kind = 2) from .inr (.inl (by simpa using hz1)))
       have hn1 : IntKind.i64.wrap (((0 : Nat) : Int) + 1) = ((0 : Nat) : Int) + 1 := by rw [IntKind.wrap_i64]; omega
       go_wp2_with fail
       refine ⟨⟨0 + 1, by go_num, by omega, fun j hj => ?_, GN.out⟩, by simp [RowKit.intOf]; omega⟩
       by_cases h : j = 0
       ·subst h
        intro y hy
        obtain rfl : y = u := Option.some.inj (hy.symm.trans HUU.out)
        exact ⟨⟨HMM.out, HST.out⟩, fun h => by omega⟩
       ·exact HN.out j (by omega)
      have e0 : ¬ u.st = 0 := by simpa using hz0
      have e1 : ¬ u.st = 1 := by simpa using hz1
      obtain ⟨z2, hz2⟩ : ∃ t, (u.st != 2) = t := ⟨_, rfl⟩
      cases z2
      rotate_left
      ·have H1 := Lib.hid (And.intro e0 (And.intro e1 (show ¬ u.st = 2 by simpa using hz2)))
       go_wp2_with fail
       try rw [Exit.noGoto_ret]
       go_ret
       exact ⟨_, rfl, G.out.trans GN.out, Tells.no (no_row HX.out HIT.out (fun q => absurd (steps_of_rows q _ u HUU.out) (by rintro ⟨⟨⟨z1, z2⟩, z3⟩, z4⟩; have h1 := H1.out; omega)))⟩
      have e2 : u.st = 2 := by simpa using hz2
      have HE2 := Lib.hid e2
      have HE0 := Lib.hid (And.intro e0 e1)
      clear e0 e1 e2
      obtain ⟨z3, hz3⟩ : ∃ t, (it.kind != 2) = t := ⟨_, rfl⟩
      cases z3
      ·have HST := Lib.hid (show u.st = 0 ∨ u.st = 1 ∨ (u.st = 2 ∧ it.kind = 2) from .inr (.inr ⟨HE2.out, by simpa using hz3⟩))
       have hn1 : IntKind.i64.wrap (((0 : Nat) : Int) + 1) = ((0 : Nat) : Int) + 1 := by rw [IntKind.wrap_i64]; omega
       go_wp2_with fail
       refine ⟨⟨0 + 1, by go_num, by omega, fun j hj => ?_, GN.out⟩, by simp [RowKit.intOf]; omega⟩
       by_cases h : j = 0
       ·subst h
        intro y hy
        obtain rfl : y = u := Option.some.inj (hy.symm.trans HUU.out)
        exact ⟨⟨HMM.out, HST.out⟩, fun h => by omega⟩
       ·exact HN.out j (by omega)
      ·have H1 := Lib.hid (show ¬ it.kind = 2 by simpa using hz3)
       go_wp2_with fail
       try rw [Exit.noGoto_ret]
       go_ret
       exact ⟨_, rfl, G.out.trans GN.out, Tells.no (no_row HX.out HIT.out (fun q => absurd (steps_of_rows q _ u HUU.out) (by rintro ⟨⟨⟨z1, z2⟩, z3⟩, z4⟩; have h1 := H1.out; have h2 := HE2.out; have h3 := HE0.out; omega)))⟩
     ·obtain ⟨n, rfl⟩ : ∃ j, n = j + 1 := ⟨n - 1, by omega⟩
      obtain ⟨_, _, v, hbo, hv, hcv⟩ := unit_at (HON.out.grow GN.out) rfl (show n < lx.length by omega)
      cases hbo
      have v0 := fun w' g => (hcv w' g).1
      have HVV := Lib.hid hv
      have hw1 : IntKind.i64.wrap ((n : Int) + 1 - 1) = (n : Int) := by rw [IntKind.wrap_i64]; omega
      have hnl : (n : Int) < (lx.length : Int) := by omega
      have hw0 : IntKind.i64.wrap (n : Int) = (n : Int) := by rw [IntKind.wrap_i64]; omega
      clear hv hcv
      by_cases h3 : u.mach ≤ v.mach
      ·have H1 := Lib.hid h3
       repeat (first | (refine wpE_skip rfl rfl ?_; go_simp) | (refine wpE_readB (v := ?_) g0 rfl rfl (fun w' hg => ?_) (fun K hK => ?_); rotate_left; (go_simp; rfl); go_simp; refine hK _ _ ?_; clear hK K))
       refine wpE_nil ?_
       have G := Lib.hid ((G.out.trans GN.out).trans g0)
       clear a0 a1 m3 r0 s0 g0
       go_wp2_with fail
       try rw [Exit.noGoto_ret]
       go_ret
       exact ⟨_, rfl, G.out, Tells.no (no_row HX.out HIT.out (fun q => absurd (steps_of_rows q _ u HUU.out) (by rintro ⟨⟨⟨z1, z2⟩, z3⟩, z4⟩; have h1 := H1.out; have := z4 (by omega) v HVV.out; omega)))⟩
      have HLT := Lib.hid (show v.mach < u.mach by omega)
      repeat (first | (refine wpE_skip rfl rfl ?_; go_simp) | (refine wpE_readB (v := ?_) g0 rfl rfl (fun w' hg => ?_) (fun K hK => ?_); rotate_left; (go_simp; rfl); go_simp; refine hK _ _ ?_; clear hK K))
      refine wpE_nil ?_
      have GN := Lib.hid (GN.out.trans g0)
      clear a0 a1 m3 r0 s0 g0
      have T8 := Lib.hid (T8.out.grow G9.out)
      have a1 := T8.out.at 1 rfl
      have m5 := mc5 (TM.out.grow GN.out) _ (Gr.refl _)
      have i1 := (item_cell (HM.out.grow GN.out).items HIT.out _ (Gr.refl _)).2.1
      dsimp only at m5
      have hni : (k : Int) < (M.items.length : Int) := by have := E.out; omega
      obtain ⟨z0, hz0⟩ : ∃ t, (u.st != 0) = t := ⟨_, rfl⟩
      cases z0
      ·have HST := Lib.hid (show u.st = 0 ∨ u.st = 1 ∨ (u.st = 2 ∧ it.kind = 2) from .inl (by simpa using hz0))
       have hn1 : IntKind.i64.wrap ((((n + 1) : Nat) : Int) + 1) = (((n + 1) : Nat) : Int) + 1 := by rw [IntKind.wrap_i64]; omega
       go_wp2_with fail
       refine ⟨⟨(n + 1) + 1, by go_num, by omega, fun j hj => ?_, GN.out⟩, by simp [RowKit.intOf]; omega⟩
       by_cases h : j = (n + 1)
       ·subst h
        intro y hy
        obtain rfl : y = u := Option.some.inj (hy.symm.trans HUU.out)
        exact ⟨⟨HMM.out, HST.out⟩, fun _ z hz => by obtain rfl : z = v := Option.some.inj (hz.symm.trans HVV.out); exact HLT.out⟩
       ·exact HN.out j (by omega)
      obtain ⟨z1, hz1⟩ : ∃ t, (u.st != 1) = t := ⟨_, rfl⟩
      cases z1
      ·have HST := Lib.hid (show u.st = 0 ∨ u.st = 1 ∨ (u.st = 2 ∧ it.kind = 2) from .inr (.inl (by simpa using hz1)))
       have hn1 : IntKind.i64.wrap ((((n + 1) : Nat) : Int) + 1) = (((n + 1) : Nat) : Int) + 1 := by rw [IntKind.wrap_i64]; omega
       go_wp2_with fail
       refine ⟨⟨(n + 1) + 1, by go_num, by omega, fun j hj => ?_, GN.out⟩, by simp [RowKit.intOf]; omega⟩
       by_cases h : j = (n + 1)
       ·subst h
        intro y hy
        obtain rfl : y = u := Option.some.inj (hy.symm.trans HUU.out)
        exact ⟨⟨HMM.out, HST.out⟩, fun _ z hz => by obtain rfl : z = v := Option.some.inj (hz.symm.trans HVV.out); exact HLT.out⟩
       ·exact HN.out j (by omega)
      have e0 : ¬ u.st = 0 := by simpa using hz0
      have e1 : ¬ u.st = 1 := by simpa using hz1
      obtain ⟨z2, hz2⟩ : ∃ t, (u.st != 2) = t := ⟨_, rfl⟩
      cases z2
      rotate_left
      ·have H1 := Lib.hid (And.intro e0 (And.intro e1 (show ¬ u.st = 2 by simpa using hz2)))
       go_wp2_with fail
       try rw [Exit.noGoto_ret]
       go_ret
       exact ⟨_, rfl, G.out.trans GN.out, Tells.no (no_row HX.out HIT.out (fun q => absurd (steps_of_rows q _ u HUU.out) (by rintro ⟨⟨⟨z1, z2⟩, z3⟩, z4⟩; have h1 := H1.out; omega)))⟩
      have e2 : u.st = 2 := by simpa using hz2
      have HE2 := Lib.hid e2
      have HE0 := Lib.hid (And.intro e0 e1)
      clear e0 e1 e2
      obtain ⟨z3, hz3⟩ : ∃ t, (it.kind != 2) = t := ⟨_, rfl⟩
      cases z3
      ·have HST := Lib.hid (show u.st = 0 ∨ u.st = 1 ∨ (u.st = 2 ∧ it.kind = 2) from .inr (.inr ⟨HE2.out, by simpa using hz3⟩))
       have hn1 : IntKind.i64.wrap ((((n + 1) : Nat) : Int) + 1) = (((n + 1) : Nat) : Int) + 1 := by rw [IntKind.wrap_i64]; omega
       go_wp2_with fail
       refine ⟨⟨(n + 1) + 1, by go_num, by omega, fun j hj => ?_, GN.out⟩, by simp [RowKit.intOf]; omega⟩
       by_cases h : j = (n + 1)
       ·subst h
        intro y hy
        obtain rfl : y = u := Option.some.inj (hy.symm.trans HUU.out)
        exact ⟨⟨HMM.out, HST.out⟩, fun _ z hz => by obtain rfl : z = v := Option.some.inj (hz.symm.trans HVV.out); exact HLT.out⟩
       ·exact HN.out j (by omega)
      ·have H1 := Lib.hid (show ¬ it.kind = 2 by simpa using hz3)
       go_wp2_with fail
       try rw [Exit.noGoto_ret]
       go_ret
       exact ⟨_, rfl, G.out.trans GN.out, Tells.no (no_row HX.out HIT.out (fun q => absurd (steps_of_rows q _ u HUU.out) (by rintro ⟨⟨⟨z1, z2⟩, z3⟩, z4⟩; have h1 := H1.out; have h2 := HE2.out; have h3 := HE0.out; omega)))⟩
    ·obtain rfl : n = lx.length := by omega
     have hk1 : IntKind.i64.wrap ((k : Int) + 1) = (k : Int) + 1 := by rw [IntKind.wrap_i64]; omega
     go_wp2_with fail
     refine ⟨⟨k + 1, by go_num, by omega, fun j y it' hj hy hit' => ?_, GN.out⟩, by simp [RowKit.intOf]; omega⟩
     by_cases h : j = k
     ·subst h
      obtain rfl : y = _ := Option.some.inj (hy.symm.trans HX.out)
      obtain rfl : it' = it := Option.some.inj (hit'.symm.trans HIT.out)
      exact rows_of_steps HN.out
     ·exact HE.out j y it' (by omega) hy hit'
  ·obtain rfl : k = L.length := by omega
   go_wp2_with fail
   go_ret
   exact ⟨_, rfl, G.out.trans GL.out, Tells.yes (plc_all HV.out E.out HE.out)⟩
theorem ref_Valid20 (w : World) (P : Ptrs) (M : Mdl) (p : Option Addr) (c : Nat) (L : List RowU) (hm : MdlAt w P M) (hf : Few M) (hp : PlcAt w p c L) (hk : FewK (usOf L)) :
  Calls Tryz.prog 13 #[.agg (mcells P M), plcV p c L] w (Ret w fun r _ => Tells (PlcOK M (usOf L)) r) := ref_Valid20w w P M p c L hm hf hp
end Go.Proofs.YtnlocdijdfclcaaGreatDoor

/-
  moves.shapes, fits, Valid.
  moves.fits, Valid.
  moves.Valid; exodusref15.HasInt, exodusref23.free, source, crosses, link, valid, Valid.
  exodusref23.source, crosses, link, valid, Valid.
-/
import Derived.Test.YtnlocdijdfclcaaGreatDoorMva
import Derived.Test.YtnlocdijdfclcaaGreatDoorFind
import Derived.Test.YtnlocdijdfclcaaGreatDoorCatZ
namespace Go.Proofs.YtnlocdijdfclcaaGreatDoor
open Go.RowKit Go.Lib Lex
set_option linter.unusedVariables false
set_option linter.unusedSimpArgs false

def PInt (w : World) (v : Value) (p : Int → Bool) : Prop := ∃ (f : Nat) (caps : Array Value), v = .func (.func f) #[] caps ∧ (∀ args w, (callFunc f args).run Tryz.prog w = .ok (.enter f args) w) ∧
 ∀ w', Gr w w' → ∀ n : Int, Calls Tryz.prog f (#[.int .i64 n] ++ caps) w' (Ret w' fun r _ => r = .bool (p n))
theorem PInt.grow {w w' : World} {v : Value} {p : Int → Bool} (h : PInt w v p) (g : Gr w w') : PInt w' v p := by
 obtain ⟨f, caps, h1, h2, h5⟩ := h
 exact ⟨f, caps, h1, h2, fun w'' g' => h5 w'' (g.trans g')⟩
theorem on_prd (w : World) (bi : Nat) (it : ItemM) (hb : Cells w bi (itV it)) (hi : ItemOn w it) (hl : it.on.length ≤ 1000000) :
  PInt w (.func (.func 78) #[] #[.pointer (some ⟨bi, 0, none⟩)]) (fun n => it.on.contains n) := by
 refine ⟨_, _, rfl, enters_of Tryz.func78 (by kernel_rfl) rfl, fun w' g n => ?_⟩
 have HI := Lib.hid (show ItemOn w' it from SlL.grow hi g)
 have d6 : World.cell? w' ⟨bi, 6, none⟩ = some (.slice it.onP it.on.length it.onC) := (hb.grow g).at 6 rfl
 clear hb hi g
 show Calls _ _ #[.int .i64 n, .pointer (some ⟨bi, 0, none⟩)] _ _
 go_enter Tryz.func78, Tryz.ntmps78
 go_wp2_with fail
 refine (contains_int w' it.onP it.onC it.on n HI.out hl).mono ?_
 rintro _ _ ⟨rfl, rfl⟩
 obtain ⟨t, ht⟩ : ∃ t, it.on.contains n = t := ⟨_, rfl⟩
 rw [ht]
 have HT := Lib.hid ht
 clear ht
 go_wp2_with fail
 go_ret
 exact ⟨_, rfl, Gr.refl _, by show _ = Value.bool (it.on.contains n); rw [HT.out]; rfl⟩
set_option maxRecDepth 100000 in
set_option maxHeartbeats 1600000 in
theorem free_prd (w : World) (P : Ptrs) (M : Mdl) (bm bo : Nat) (ov : Value) (it : ItemM) (hm : MdlAt w P M) (hf : Few M) (hb : Cells w bm (mcells P M)) (ho : Cells w bo #[ov]) (hp : PInt w ov (fun n => it.on.contains n)) :
  PInt w (.func (.func 80) #[] #[.pointer (some ⟨bm, 0, none⟩), .pointer (some ⟨bo, 0, none⟩)]) (fun n => freeI M it n) := by
 refine ⟨_, _, rfl, enters_of Tryz.func80 (by kernel_rfl) rfl, fun W g n => ?_⟩
 obtain ⟨f, caps, rfl, he, h5⟩ := hp.grow g
 have TM := Lib.hid (hb.grow g)
 have TO := Lib.hid (ho.grow g)
 have HM := Lib.hid (hm.grow g)
 have HF := Lib.hid hf
 have H5 := Lib.hid h5
 clear hb ho hm hf g hp h5
 show Calls _ _ #[.int .i64 n, .pointer (some ⟨bm, 0, none⟩), .pointer (some ⟨bo, 0, none⟩)] _ _
 go_enter Tryz.func80, Tryz.ntmps80
 go_wp2_with fail
 have g0 : Gr W W.drew := (Gr.refl _).drew
 have m0 := mc0 TM.out
 have m1 := mc1 TM.out
 have m2 := mc2 TM.out
 have m3 := mc3 TM.out
 have m4 := mc4 TM.out
 have m5 := mc5 TM.out
 have m6 := mc6 TM.out
 have m7 := mc7 TM.out
 have m8 := mc8 TM.out
 have m9 := mc9 TM.out
 have m10 := mc10 TM.out
 try dsimp only at m0 m1 m2 m3 m4 m5 m6 m7 m8 m9 m10
 have o0 : ∀ w', Gr W w' → w'.cell? ⟨bo, 0, none⟩ = some (.func (.func f) #[] caps) := TO.out.c 0 rfl
 obtain ⟨t1, h1⟩ : ∃ t, decide (1 ≤ n) = t := ⟨_, rfl⟩
 obtain ⟨t2, h2⟩ : ∃ t, decide (n ≤ (M.machs.length : Int)) = t := ⟨_, rfl⟩
 have H1 := Lib.hid h1
 have H2 := Lib.hid h2
 refine wp_region_fast [(0, true), (1, true), (2, true), (3, true), (4, true), (5, true), (6, true), (7, true), (8, true), (9, true), (10, true), (11, true), (12, false), (13, true), (14, true), (15, true), (16, true), (17, true), (19, true), (20, true), (18, false), (21, true), (22, true), (23, true)] (by kernel_rfl) (by kernel_rfl) rfl (by kernel_rfl) (fun _ _ d _ _ h => by cases d <;> exact h) ?_
 cases t1
 ·repeat (first | (refine wpE_skip rfl rfl ?_; go_simp) | (refine wpE_readB (v := ?_) g0 rfl rfl (fun w' hg => ?_) (fun K hK => ?_); rotate_left; (go_simp; rfl); go_simp; refine hK _ _ ?_; clear hK K))
  refine wpE_nil ?_
  go_wp2_with fail
  go_ret
  exact ⟨_, rfl, g0, by unfold freeI; rw [H1.out]; rfl⟩
 ·cases t2
  ·repeat (first | (refine wpE_skip rfl rfl ?_; go_simp) | (refine wpE_readB (v := ?_) g0 rfl rfl (fun w' hg => ?_) (fun K hK => ?_); rotate_left; (go_simp; rfl); go_simp; refine hK _ _ ?_; clear hK K))
   refine wpE_nil ?_
   go_wp2_with fail
   go_ret
   exact ⟨_, rfl, g0, by unfold freeI; rw [H1.out, H2.out]; rfl⟩
  ·repeat (first | (refine wpE_skip rfl rfl ?_; go_simp) | (refine wpE_readB (v := ?_) g0 rfl rfl (fun w' hg => ?_) (fun K hK => ?_); rotate_left; (go_simp; rfl); go_simp; refine hK _ _ ?_; clear hK K))
   refine wpE_fnV (args := ?_) rfl rfl rfl rfl rfl he ?_ (fun K hK => ?_)
   rotate_left
   ·go_simp; rfl
   refine (H5.out _ g0 n).mono ?_
   rintro _ w4 ⟨r4, rfl, g4, rfl⟩
   obtain ⟨t3, h3⟩ : ∃ t, it.on.contains n = t := ⟨_, rfl⟩
   rw [h3]
   have H3 := Lib.hid h3
   clear h3
   refine ⟨_, rfl, g4, ?_⟩
   go_simp
   refine hK _ _ ?_
   clear hK K
   replace g0 := g0.trans g4
   cases t3
   ·repeat (first | (refine wpE_skip rfl rfl ?_; go_simp) | (refine wpE_readB (v := ?_) g0 rfl rfl (fun w' hg => ?_) (fun K hK => ?_); rotate_left; (go_simp; rfl); go_simp; refine hK _ _ ?_; clear hK K))
    refine wpE_fn (args := ?_) rfl rfl rfl rfl rfl rfl (by kernel_rfl) (by kernel_rfl) ?_ (fun K hK => ?_)
    rotate_left
    ·go_simp; rfl
    refine (mv_place _ _ M n (HM.out.grow g0) HF.out).mono ?_
    rintro _ w5 ⟨_, rfl, g5, rfl⟩
    refine ⟨_, rfl, g5, ?_⟩
    go_simp
    refine hK _ _ ?_
    clear hK K
    replace g0 := g0.trans g5
    repeat (first | (refine wpE_skip rfl rfl ?_; go_simp) | (refine wpE_readB (v := ?_) g0 rfl rfl (fun w' hg => ?_) (fun K hK => ?_); rotate_left; (go_simp; rfl); go_simp; refine hK _ _ ?_; clear hK K))
    refine wpE_nil ?_
    go_wp2_with fail
    go_ret
    exact ⟨_, rfl, g0, by unfold freeI; rw [H1.out, H2.out, H3.out]; rfl⟩
   ·repeat (first | (refine wpE_skip rfl rfl ?_; go_simp) | (refine wpE_readB (v := ?_) g0 rfl rfl (fun w' hg => ?_) (fun K hK => ?_); rotate_left; (go_simp; rfl); go_simp; refine hK _ _ ?_; clear hK K))
    refine wpE_nil ?_
    go_wp2_with fail
    go_ret
    exact ⟨_, rfl, g0, by unfold freeI; rw [H1.out, H2.out, H3.out]; rfl⟩
theorem shape_1 (w : World) (a b : Int) (u v : Value) (p q : Int → Bool) (hp : PInt w u p) (hq : PInt w v q) :
  Calls Tryz.prog 127 #[.int .i64 a, .int .i64 b, u, v] w (Ret w fun r _ => r = .bool (p a && q b)) := by
 have HQ := Lib.hid hq
 obtain ⟨f, c1, rfl, e1, h1⟩ := hp
 obtain ⟨g, c2, rfl, e2, h2⟩ := hq
 have H1 := Lib.hid h1
 have H2 := Lib.hid h2
 clear h1 h2
 go_enter Tryz.func127, Tryz.ntmps127
 go_wp2_with fail
 refine (H1.out w (Gr.refl _) a).mono ?_
 rintro _ w1 ⟨_, rfl, g1, rfl⟩
 obtain ⟨t, ht⟩ : ∃ t, p a = t := ⟨_, rfl⟩
 rw [ht]
 have HT := Lib.hid ht
 clear ht
 cases t
 ·go_wp2_with fail
  go_ret
  exact ⟨_, rfl, g1, by rw [HT.out]; rfl⟩
 ·go_wp2_with fail
  refine (H2.out w1 g1 b).mono ?_
  rintro _ w2 ⟨_, rfl, g2, rfl⟩
  go_wp2_with fail
  go_ret
  exact ⟨_, rfl, g1.trans g2, by rw [HT.out]; rfl⟩
theorem shape_2 (w : World) (a b : Int) (u v : Value) (p q : Int → Bool) (hp : PInt w u p) (hq : PInt w v q) :
  Calls Tryz.prog 128 #[.int .i64 a, .int .i64 b, u, v] w (Ret w fun r _ => r = .bool ((a == 0 && q b) || (p a && b == 0))) := by
 have HQ := Lib.hid hq
 obtain ⟨f, c1, rfl, e1, h1⟩ := hp
 obtain ⟨g, c2, rfl, e2, h2⟩ := hq
 have H1 := Lib.hid h1
 have H2 := Lib.hid h2
 clear h1 h2
 obtain ⟨t0, h0⟩ : ∃ t, (a == 0) = t := ⟨_, rfl⟩
 have H0 := Lib.hid h0
 obtain ⟨t1, h1⟩ : ∃ t, q b = t := ⟨_, rfl⟩
 have HB := Lib.hid h1
 obtain ⟨t2, h2⟩ : ∃ t, p a = t := ⟨_, rfl⟩
 have HA := Lib.hid h2
 obtain ⟨t3, h3⟩ : ∃ t, (b == 0) = t := ⟨_, rfl⟩
 have H3 := Lib.hid h3
 clear h1 h2
 cases t0
 ·go_enter Tryz.func128, Tryz.ntmps128
  go_wp2_with fail
  refine (H1.out w (Gr.refl _) a).mono ?_
  rintro _ w1 ⟨_, rfl, g1, rfl⟩
  rw [HA.out]
  cases t2
  ·go_wp2_with fail
   go_ret
   exact ⟨_, rfl, g1, by rw [H0.out, HA.out]; rfl⟩
  ·cases t3
   ·go_wp2_with fail
    go_ret
    exact ⟨_, rfl, g1, by rw [H0.out, HA.out, H3.out]; rfl⟩
   ·go_wp2_with fail
    go_ret
    exact ⟨_, rfl, g1, by rw [H0.out, HA.out, H3.out]; rfl⟩
 ·go_enter Tryz.func128, Tryz.ntmps128
  go_wp2_with fail
  refine (H2.out w (Gr.refl _) b).mono ?_
  rintro _ w1 ⟨_, rfl, g1, rfl⟩
  rw [HB.out]
  cases t1
  ·go_wp2_with fail
   refine (H1.out w1 g1 a).mono ?_
   rintro _ w2 ⟨_, rfl, g2, rfl⟩
   rw [HA.out]
   cases t2
   ·go_wp2_with fail
    go_ret
    exact ⟨_, rfl, g1.trans g2, by rw [H0.out, HB.out, HA.out]; rfl⟩
   ·cases t3
    ·go_wp2_with fail
     go_ret
     exact ⟨_, rfl, g1.trans g2, by rw [H0.out, HB.out, HA.out, H3.out]; rfl⟩
    ·go_wp2_with fail
     go_ret
     exact ⟨_, rfl, g1.trans g2, by rw [H0.out, HB.out, HA.out, H3.out]; rfl⟩
  ·go_wp2_with fail
   go_ret
   exact ⟨_, rfl, g1, by rw [H0.out, HB.out]; rfl⟩
def shapesL : List (Value × Value) := [(.int .i64 0, .func (.func 127) #[] #[]), (.int .i64 2, .func (.func 127) #[] #[]), (.int .i64 1, .func (.func 128) #[] #[])]
theorem mv_shapes (w : World) : Calls Tryz.prog 82 #[] w (Ret w fun r w' => ∃ b, r = .map (some b) ∧ MapAt w' b shapesL) := by
 have hmk := fun w => run_makeMap (P := Tryz.prog) 102 w
 have i0 := run_store_alloc (P := Tryz.prog) (w := w) (es := #[]) (c := 0) (t := 102) (key := .int .i64 0) (es' := #[⟨.int .i64 0, (.func (.func 127) #[] #[]), 0⟩]) (.func (.func 127) #[] #[]) Tryz.underlying102 Tryz.underlying3 int_keyK (by rfl) (by rfl)
 simp only [Nat.reduceAdd] at i0
 have i1 := run_store_alloc (P := Tryz.prog) (w := w) (es := #[⟨.int .i64 0, (.func (.func 127) #[] #[]), 0⟩]) (c := 1) (t := 102) (key := .int .i64 2) (es' := #[⟨.int .i64 0, (.func (.func 127) #[] #[]), 0⟩, ⟨.int .i64 2, (.func (.func 127) #[] #[]), 1⟩]) (.func (.func 127) #[] #[]) Tryz.underlying102 Tryz.underlying3 int_keyK (by rfl) (by rfl)
 simp only [Nat.reduceAdd] at i1
 have i2 := run_store_alloc (P := Tryz.prog) (w := w) (es := #[⟨.int .i64 0, (.func (.func 127) #[] #[]), 0⟩, ⟨.int .i64 2, (.func (.func 127) #[] #[]), 1⟩]) (c := 2) (t := 102) (key := .int .i64 1) (es' := #[⟨.int .i64 0, (.func (.func 127) #[] #[]), 0⟩, ⟨.int .i64 2, (.func (.func 127) #[] #[]), 1⟩, ⟨.int .i64 1, (.func (.func 128) #[] #[]), 2⟩]) (.func (.func 128) #[] #[]) Tryz.underlying102 Tryz.underlying3 int_keyK (by rfl) (by rfl)
 simp only [Nat.reduceAdd] at i2
 go_enter Tryz.func82, Tryz.ntmps82
 go_wp2_with fail
 go_ret
 exact ⟨_, rfl, (Gr.refl w).alloc _, _, rfl, _, _, (MapKept.heap_alloc w _).1, rfl⟩
end Go.Proofs.YtnlocdijdfclcaaGreatDoor
namespace Go.Proofs.YtnlocdijdfclcaaGreatDoor
open Go.RowKit Go.Lib Lex
set_option linter.unusedVariables false
set_option linter.unusedSimpArgs false

set_option maxRecDepth 100000 in
set_option maxHeartbeats 1600000 in
theorem mv_fits' (w : World) (P : Ptrs) (M : Mdl) (xi xf xt : Int) (hm : MdlAt w P M) (hf : Few M) (hv : MdlOK M) :
  Calls Tryz.prog 41 #[.agg (mcells P M), .agg #[.int .i64 xi, .int .i64 xf, .int .i64 xt]] w (Ret w fun r _ => r = .bool (fitsM M ⟨xi, xf, xt⟩)) := by
 obtain ⟨p0, c0, p1, c1, p2, c2, p3, c3, p4, c4, p5, c5, p6, c6⟩ := P
 have HF := Lib.hid hf
 have HV := Lib.hid hv
 have HM0 := Lib.hid hm
 have B0 := Cells.new w (mcells ⟨p0, c0, p1, c1, p2, c2, p3, c3, p4, c4, p5, c5, p6, c6⟩ M) 29
 have B1 := Cells.new (w.alloc (.cells (mcells ⟨p0, c0, p1, c1, p2, c2, p3, c3, p4, c4, p5, c5, p6, c6⟩ M) 29)) #[.int .i64 xi, .int .i64 xf, .int .i64 xt] 34
 simp only [World.size_alloc] at B1
 have m5 := mc5 B0.2 _ B1.1
 have x0 := B1.2.at 0 rfl
 have x1 := B1.2.at 1 rfl
 have x2 := B1.2.at 2 rfl
 have H1 := Lib.hid (show _ ∧ _ ∧ _ from ⟨B0.1.trans B1.1, B0.2.grow B1.1, B1.2⟩)
 have HM := Lib.hid (hm.grow (B0.1.trans B1.1))
 clear B0 B1 hm hf hv
 by_cases hin : 1 ≤ xi ∧ xi ≤ (M.items.length : Int)
 ·obtain ⟨k, rfl⟩ : ∃ k : Nat, xi = (k : Int) + 1 := ⟨(xi - 1).toNat, by omega⟩
  have hlt : k < M.items.length := by omega
  have hfew := HF.out.1
  obtain ⟨b, o, it, hpp, hit, hc⟩ := item_at HM.out.items rfl hlt
  obtain rfl : p5 = some ⟨b, o, none⟩ := hpp
  have hlt' : (k : Int) < (M.items.length : Int) := by omega
  have hw1 : IntKind.i64.wrap ((k : Int) + 1 - 1) = (k : Int) := by rw [IntKind.wrap_i64]; omega
  have ha : ¬ (k : Int) + 1 < 1 := by omega
  have hb : (k : Int) + 1 ≤ (M.items.length : Int) := by omega
  obtain ⟨y0, y1, y2, y3, y4, y5, y6⟩ := hc _ (Gr.refl _)
  have hmem := List.mem_of_getElem? hit
  have HOK := Lib.hid (HV.out.2.2.2.2.1 it hmem)
  have HMEM := Lib.hid hmem
  have HON := Lib.hid (HM.out.ons it hmem)
  have hol := (HF.out.2.2.2.2.2.1 it hmem).2
  have HR := Lib.hid (show fitsM M ⟨(k : Int) + 1, xf, xt⟩ = fitsI M ⟨(k : Int) + 1, xf, xt⟩ it from by
   unfold fitsM
   simp only
   rw [if_pos hin, show ((k : Int) + 1 - 1).toNat = k by omega, hit])
  clear hin hit hc hmem
  have B2 := Cells.new ((w.alloc (.cells (mcells ⟨p0, c0, p1, c1, p2, c2, p3, c3, p4, c4, some ⟨b, o, none⟩, c5, p6, c6⟩ M) 29)).alloc (.cells #[.int .i64 ((k : Int) + 1), .int .i64 xf, .int .i64 xt] 34)) (itV it) 61
  have B3 := Cells.new (((w.alloc (.cells (mcells ⟨p0, c0, p1, c1, p2, c2, p3, c3, p4, c4, some ⟨b, o, none⟩, c5, p6, c6⟩ M) 29)).alloc (.cells #[.int .i64 ((k : Int) + 1), .int .i64 xf, .int .i64 xt] 34)).alloc (.cells (itV it) 61)) #[.func (.func 78) #[] #[.pointer (some ⟨w.heap.size + 1 + 1, 0, none⟩)]] 98
  simp only [World.size_alloc] at B2 B3
  have HB := Lib.hid (show _ ∧ _ ∧ _ ∧ _ ∧ _ ∧ _ from ⟨B2.1.trans B3.1, (H1.out.1.trans B2.1).trans B3.1, (H1.out.2.1.grow B2.1).grow B3.1, (H1.out.2.2.grow B2.1).grow B3.1, B2.2.grow B3.1, B3.2⟩)
  clear B2 B3 H1
  unfold itV mcells at HB
  unfold mcells at HM HON m5 x0 x1 x2 y0 y1 y2 y3 y4 y5 y6 ⊢
  go_enter Tryz.func41, Tryz.ntmps41
  go_wp2_with fail
  clear m5 x0 x1 x2 y0 y1 y2 y3 y4 y5 y6
  clear HM HON
  generalize w.heap.size + 1 + 1 + 1 = bo at HB ⊢
  generalize w.heap.size + 1 + 1 = bi at HB ⊢
  generalize w.heap.size + 1 = bx at HB ⊢
  generalize w.heap.size = bm at HB ⊢
  generalize (((w.alloc _).alloc _).alloc _).alloc _ = W at HB ⊢
  have HG := Lib.hid (show Gr w W from HB.out.2.1)
  have HM := Lib.hid (HM0.out.grow HG.out)
  have HIO := Lib.hid (HM.out.ons it HMEM.out)
  have TM := Lib.hid (show Cells W bm (mcells ⟨p0, c0, p1, c1, p2, c2, p3, c3, p4, c4, some ⟨b, o, none⟩, c5, p6, c6⟩ M) from HB.out.2.2.1)
  have TX := Lib.hid (show Cells W bx (moveV ⟨(k : Int) + 1, xf, xt⟩) from HB.out.2.2.2.1)
  have TI := Lib.hid (show Cells W bi (itV it) from HB.out.2.2.2.2.1)
  have TO := Lib.hid HB.out.2.2.2.2.2
  have HON := Lib.hid (on_prd W bi it TI.out HIO.out (by omega))
  have HFR := Lib.hid (free_prd W _ M bm bo _ it HM.out HF.out TM.out TO.out HON.out)
  clear HB HM0
  have g0 : Gr W W.drew := (Gr.refl _).drew
  have m0 := mc0 TM.out
  have m1 := mc1 TM.out
  have m2 := mc2 TM.out
  have m3 := mc3 TM.out
  have m4 := mc4 TM.out
  have m5 := mc5 TM.out
  have m6 := mc6 TM.out
  have m7 := mc7 TM.out
  have m8 := mc8 TM.out
  have m9 := mc9 TM.out
  have m10 := mc10 TM.out
  try dsimp only at m0 m1 m2 m3 m4 m5 m6 m7 m8 m9 m10
  have x0 : ∀ w', Gr W w' → w'.cell? ⟨bx, 0, none⟩ = some (.int .i64 ((k : Int) + 1)) := TX.out.c 0 rfl
  have x1 : ∀ w', Gr W w' → w'.cell? ⟨bx, 1, none⟩ = some (.int .i64 xf) := TX.out.c 1 rfl
  have x2 : ∀ w', Gr W w' → w'.cell? ⟨bx, 2, none⟩ = some (.int .i64 xt) := TX.out.c 2 rfl
  have i0 : ∀ w', Gr W w' → w'.cell? ⟨bi, 0, none⟩ = some (.string ⟨it.name.toArray⟩) := TI.out.c 0 rfl
  have i1 : ∀ w', Gr W w' → w'.cell? ⟨bi, 1, none⟩ = some (.int .i64 it.kind) := TI.out.c 1 rfl
  have i2 : ∀ w', Gr W w' → w'.cell? ⟨bi, 2, none⟩ = some (.int .i64 it.count) := TI.out.c 2 rfl
  have i3 : ∀ w', Gr W w' → w'.cell? ⟨bi, 3, none⟩ = some (.int .i64 it.load) := TI.out.c 3 rfl
  have i4 : ∀ w', Gr W w' → w'.cell? ⟨bi, 4, none⟩ = some (.int .i64 it.size) := TI.out.c 4 rfl
  have i5 : ∀ w', Gr W w' → w'.cell? ⟨bi, 5, none⟩ = some (.int .i64 it.share) := TI.out.c 5 rfl
  have i6 : ∀ w', Gr W w' → w'.cell? ⟨bi, 6, none⟩ = some (.slice it.onP it.on.length it.onC) := TI.out.c 6 rfl
  have o0 : ∀ w', Gr W w' → w'.cell? ⟨bo, 0, none⟩ = some (.func (.func 78) #[] #[.pointer (some ⟨bi, 0, none⟩)]) := TO.out.c 0 rfl
  have he1 : ∀ args w, (callFunc 127 args).run Tryz.prog w = .ok (.enter 127 args) w := enters_of Tryz.func127 (by kernel_rfl) rfl
  have he2 : ∀ args w, (callFunc 128 args).run Tryz.prog w = .ok (.enter 128 args) w := enters_of Tryz.func128 (by kernel_rfl) rfl
  refine wp_region_fast [(1, true), (2, true), (4, true), (5, true), (6, true), (7, true), (8, true), (9, true), (0, false), (3, true), (10, false), (11, true), (12, true), (13, true), (14, true), (15, false), (16, true), (17, true), (18, true), (19, true), (20, true), (21, false), (22, true), (23, true), (24, true), (25, true)] (by kernel_rfl) (by kernel_rfl) rfl (by kernel_rfl) (fun _ _ d _ _ h => by cases d <;> exact h) ?_
  repeat (refine wpE_readB (v := ?_) g0 rfl rfl (fun w' hg => ?_) (fun K hK => ?_); rotate_left; (go_simp; rfl); go_simp; refine hK _ _ ?_; clear hK K)
  refine wpE_fn (args := ?_) rfl rfl rfl rfl rfl rfl (by kernel_rfl) (by kernel_rfl) ?_ (fun K hK => ?_)
  rotate_left
  ·go_simp; rfl
  refine (mv_shapes _).mono ?_
  rintro _ w2 ⟨r2, rfl, g2, bs, rfl, hk⟩
  refine ⟨_, rfl, g2, ?_⟩
  go_simp
  refine hK _ _ ?_
  clear hK K
  replace g0 := g0.trans g2
  have gr := Gr.refl w2
  by_cases hk1 : it.kind = 1
  ·have hl : ∀ w', Gr w2 w' → (Instr.lookup 102 (.map (some bs)) (.int .i64 it.kind) false).run Tryz.prog w' = .ok (.func (.func 128) #[] #[]) w' := fun w' g =>
    (run_lookup_kv (hk.grow g) Tryz.underlying102 Tryz.underlying3 int_keyK (by rw [hk1]; rfl)).1
   have HK1 := Lib.hid hk1
   clear hk1
   repeat (refine wpE_readB (v := ?_) gr rfl rfl (fun w' hg => ?_) (fun K hK => ?_); rotate_left; (go_simp; rfl); go_simp; refine hK _ _ ?_; clear hK K)
   clear hl
   refine wpE_fnV (args := ?_) rfl rfl rfl rfl rfl he2 ?_ (fun K hK => ?_)
   rotate_left
   ·go_simp; rfl
   refine (shape_2 _ _ _ _ _ (fun n => it.on.contains n) (fun n => freeI M it n) (HON.out.grow g0) (HFR.out.grow g0)).mono ?_
   rintro _ w4 ⟨r4, rfl, g4, rfl⟩
   have hsb : (((xf == 0 && freeI M it xt) || (it.on.contains xf && xt == 0))) = shapeB M ⟨(k : Int) + 1, xf, xt⟩ it := by unfold shapeB; rw [if_pos HK1.out]
   rw [hsb]
   clear hsb
   obtain ⟨ts, hts⟩ : ∃ t, shapeB M ⟨(k : Int) + 1, xf, xt⟩ it = t := ⟨_, rfl⟩
   rw [hts]
   have HTS := Lib.hid hts
   clear hts
   refine ⟨_, rfl, g4, ?_⟩
   go_simp
   refine hK _ _ ?_
   clear hK K
   replace g0 := g0.trans g4
   cases ts
   ·repeat (first | (refine wpE_skip rfl rfl ?_; go_simp) | (refine wpE_readB (v := ?_) g0 rfl rfl (fun w' hg => ?_) (fun K hK => ?_); rotate_left; (go_simp; rfl); go_simp; refine hK _ _ ?_; clear hK K))
    refine wpE_nil ?_
    go_wp2_with fail
    go_ret
    exact ⟨_, rfl, HG.out.trans g0, by rw [HR.out]; unfold fitsI; rw [HTS.out]; rfl⟩
   ·repeat (first | (refine wpE_skip rfl rfl ?_; go_simp) | (refine wpE_readB (v := ?_) g0 rfl rfl (fun w' hg => ?_) (fun K hK => ?_); rotate_left; (go_simp; rfl); go_simp; refine hK _ _ ?_; clear hK K))
    refine wpE_fn (args := ?_) rfl rfl rfl rfl rfl rfl (by kernel_rfl) (by kernel_rfl) ?_ (fun K hK => ?_)
    rotate_left
    ·go_simp; rfl
    refine (mv_apart _ _ M ⟨(k : Int) + 1, xf, xt⟩ it (HM.out.grow g0) HF.out (SlL.grow HIO.out g0) (.inr HOK.out.2.1.1)).mono ?_
    rintro _ w5 ⟨r5, rfl, g5, rfl⟩
    obtain ⟨ta, hta⟩ : ∃ t, apartM M ⟨(k : Int) + 1, xf, xt⟩ it = t := ⟨_, rfl⟩
    rw [hta]
    have HTA := Lib.hid hta
    clear hta
    refine ⟨_, rfl, g5, ?_⟩
    go_simp
    refine hK _ _ ?_
    clear hK K
    replace g0 := g0.trans g5
    cases ta
    ·repeat (first | (refine wpE_skip rfl rfl ?_; go_simp) | (refine wpE_readB (v := ?_) g0 rfl rfl (fun w' hg => ?_) (fun K hK => ?_); rotate_left; (go_simp; rfl); go_simp; refine hK _ _ ?_; clear hK K))
     refine wpE_nil ?_
     go_wp2_with fail
     go_ret
     exact ⟨_, rfl, HG.out.trans g0, by rw [HR.out]; unfold fitsI; rw [HTS.out, HTA.out]; rfl⟩
    ·repeat (first | (refine wpE_skip rfl rfl ?_; go_simp) | (refine wpE_readB (v := ?_) g0 rfl rfl (fun w' hg => ?_) (fun K hK => ?_); rotate_left; (go_simp; rfl); go_simp; refine hK _ _ ?_; clear hK K))
     refine wpE_fn (args := ?_) rfl rfl rfl rfl rfl rfl (by kernel_rfl) (by kernel_rfl) ?_ (fun K hK => ?_)
     rotate_left
     ·go_simp; rfl
     refine (mv_link _ _ M ⟨(k : Int) + 1, xf, xt⟩ it (HM.out.grow g0) HF.out (SlL.grow HIO.out g0) (.inr HOK.out.2.1.1)).mono ?_
     rintro _ w6 ⟨r6, rfl, g6, rfl⟩
     refine ⟨_, rfl, g6, ?_⟩
     go_simp
     refine hK _ _ ?_
     clear hK K
     replace g0 := g0.trans g6
     repeat (first | (refine wpE_skip rfl rfl ?_; go_simp) | (refine wpE_readB (v := ?_) g0 rfl rfl (fun w' hg => ?_) (fun K hK => ?_); rotate_left; (go_simp; rfl); go_simp; refine hK _ _ ?_; clear hK K))
     refine wpE_nil ?_
     go_wp2_with fail
     go_ret
     exact ⟨_, rfl, HG.out.trans g0, by rw [HR.out]; unfold fitsI; rw [HTS.out, HTA.out]; rfl⟩
  ·have hl : ∀ w', Gr w2 w' → (Instr.lookup 102 (.map (some bs)) (.int .i64 it.kind) false).run Tryz.prog w' = .ok (.func (.func 127) #[] #[]) w' := fun w' g =>
    (run_lookup_kv (hk.grow g) Tryz.underlying102 Tryz.underlying3 int_keyK (by
     have h02 : it.kind = 0 ∨ it.kind = 2 := by
      have := HOK.out.1
      unfold CountOK at this
      omega
     rcases h02 with h | h <;> rw [h] <;> rfl)).1
   have HK1 := Lib.hid hk1
   clear hk1
   repeat (refine wpE_readB (v := ?_) gr rfl rfl (fun w' hg => ?_) (fun K hK => ?_); rotate_left; (go_simp; rfl); go_simp; refine hK _ _ ?_; clear hK K)
   clear hl
   refine wpE_fnV (args := ?_) rfl rfl rfl rfl rfl he1 ?_ (fun K hK => ?_)
   rotate_left
   ·go_simp; rfl
   refine (shape_1 _ _ _ _ _ (fun n => it.on.contains n) (fun n => freeI M it n) (HON.out.grow g0) (HFR.out.grow g0)).mono ?_
   rintro _ w4 ⟨r4, rfl, g4, rfl⟩
   have hsb : ((it.on.contains xf && freeI M it xt)) = shapeB M ⟨(k : Int) + 1, xf, xt⟩ it := by unfold shapeB; rw [if_neg HK1.out]
   rw [hsb]
   clear hsb
   obtain ⟨ts, hts⟩ : ∃ t, shapeB M ⟨(k : Int) + 1, xf, xt⟩ it = t := ⟨_, rfl⟩
   rw [hts]
   have HTS := Lib.hid hts
   clear hts
   refine ⟨_, rfl, g4, ?_⟩
   go_simp
   refine hK _ _ ?_
   clear hK K
   replace g0 := g0.trans g4
   cases ts
   ·repeat (first | (refine wpE_skip rfl rfl ?_; go_simp) | (refine wpE_readB (v := ?_) g0 rfl rfl (fun w' hg => ?_) (fun K hK => ?_); rotate_left; (go_simp; rfl); go_simp; refine hK _ _ ?_; clear hK K))
    refine wpE_nil ?_
    go_wp2_with fail
    go_ret
    exact ⟨_, rfl, HG.out.trans g0, by rw [HR.out]; unfold fitsI; rw [HTS.out]; rfl⟩
   ·repeat (first | (refine wpE_skip rfl rfl ?_; go_simp) | (refine wpE_readB (v := ?_) g0 rfl rfl (fun w' hg => ?_) (fun K hK => ?_); rotate_left; (go_simp; rfl); go_simp; refine hK _ _ ?_; clear hK K))
    refine wpE_fn (args := ?_) rfl rfl rfl rfl rfl rfl (by kernel_rfl) (by kernel_rfl) ?_ (fun K hK => ?_)
    rotate_left
    ·go_simp; rfl
    refine (mv_apart _ _ M ⟨(k : Int) + 1, xf, xt⟩ it (HM.out.grow g0) HF.out (SlL.grow HIO.out g0) (.inr HOK.out.2.1.1)).mono ?_
    rintro _ w5 ⟨r5, rfl, g5, rfl⟩
    obtain ⟨ta, hta⟩ : ∃ t, apartM M ⟨(k : Int) + 1, xf, xt⟩ it = t := ⟨_, rfl⟩
    rw [hta]
    have HTA := Lib.hid hta
    clear hta
    refine ⟨_, rfl, g5, ?_⟩
    go_simp
    refine hK _ _ ?_
    clear hK K
    replace g0 := g0.trans g5
    cases ta
    ·repeat (first | (refine wpE_skip rfl rfl ?_; go_simp) | (refine wpE_readB (v := ?_) g0 rfl rfl (fun w' hg => ?_) (fun K hK => ?_); rotate_left; (go_simp; rfl); go_simp; refine hK _ _ ?_; clear hK K))
     refine wpE_nil ?_
     go_wp2_with fail
     go_ret
     exact ⟨_, rfl, HG.out.trans g0, by rw [HR.out]; unfold fitsI; rw [HTS.out, HTA.out]; rfl⟩
    ·repeat (first | (refine wpE_skip rfl rfl ?_; go_simp) | (refine wpE_readB (v := ?_) g0 rfl rfl (fun w' hg => ?_) (fun K hK => ?_); rotate_left; (go_simp; rfl); go_simp; refine hK _ _ ?_; clear hK K))
     refine wpE_fn (args := ?_) rfl rfl rfl rfl rfl rfl (by kernel_rfl) (by kernel_rfl) ?_ (fun K hK => ?_)
     rotate_left
     ·go_simp; rfl
     refine (mv_link _ _ M ⟨(k : Int) + 1, xf, xt⟩ it (HM.out.grow g0) HF.out (SlL.grow HIO.out g0) (.inr HOK.out.2.1.1)).mono ?_
     rintro _ w6 ⟨r6, rfl, g6, rfl⟩
     refine ⟨_, rfl, g6, ?_⟩
     go_simp
     refine hK _ _ ?_
     clear hK K
     replace g0 := g0.trans g6
     repeat (first | (refine wpE_skip rfl rfl ?_; go_simp) | (refine wpE_readB (v := ?_) g0 rfl rfl (fun w' hg => ?_) (fun K hK => ?_); rotate_left; (go_simp; rfl); go_simp; refine hK _ _ ?_; clear hK K))
     refine wpE_nil ?_
     go_wp2_with fail
     go_ret
     exact ⟨_, rfl, HG.out.trans g0, by rw [HR.out]; unfold fitsI; rw [HTS.out, HTA.out]; rfl⟩
 ·have HR := Lib.hid (show fitsM M ⟨xi, xf, xt⟩ = false from by unfold fitsM; simp only; rw [if_neg hin])
  unfold mcells at *
  by_cases ha : xi < 1
  ·go_enter Tryz.func41, Tryz.ntmps41
   go_wp2_with fail
   try rw [Exit.noGoto_ret]
   go_ret
   exact ⟨_, rfl, H1.out.1, by rw [HR.out]; rfl⟩
  ·have ha : 1 ≤ xi := by omega
   have hb : (M.items.length : Int) < xi := by omega
   go_enter Tryz.func41, Tryz.ntmps41
   go_wp2_with fail
   try rw [Exit.noGoto_ret]
   go_ret
   exact ⟨_, rfl, H1.out.1, by rw [HR.out]; rfl⟩
end Go.Proofs.YtnlocdijdfclcaaGreatDoor
namespace Go.Proofs.YtnlocdijdfclcaaGreatDoor
open Go.RowKit Go.Lib Lex
set_option linter.unusedVariables false
set_option linter.unusedSimpArgs false

theorem mv_fits (w : World) (P : Ptrs) (M : Mdl) (x : MvM) (hm : MdlAt w P M) (hf : Few M) (hv : MdlOK M) :
  Calls Tryz.prog 41 #[.agg (mcells P M), .agg (moveV x)] w (Ret w fun r _ => r = .bool (fitsM M x)) := mv_fits' w P M x.item x.frm x.to hm hf hv
theorem mv_Valid (w : World) (P : Ptrs) (M : Mdl) (x : MvM) (hm : MdlAt w P M) (hf : Few M) (ht : Tab w) :
  Calls Tryz.prog 19 #[.agg (mcells P M), .agg (moveV x)] w (Ret w fun r _ => Tells (MoveOK M x) r) := by
 have HT := Lib.hid ht
 clear ht
 have HM0 := Lib.hid hm
 have HF := Lib.hid hf
 have B0 := Cells.new w (mcells P M) 29
 have B1 := Cells.new (w.alloc (.cells (mcells P M) 29)) (moveV x) 34
 simp only [World.size_alloc] at B1
 have m0 := mc0 B0.2 _ B1.1
 have m1 := mc1 B0.2 _ B1.1
 have m2 := mc2 B0.2 _ B1.1
 have m3 := mc3 B0.2 _ B1.1
 have m4 := mc4 B0.2 _ B1.1
 have m5 := mc5 B0.2 _ B1.1
 have m6 := mc6 B0.2 _ B1.1
 have m7 := mc7 B0.2 _ B1.1
 have m8 := mc8 B0.2 _ B1.1
 have m9 := mc9 B0.2 _ B1.1
 have m10 := mc10 B0.2 _ B1.1
 have x0 : World.cell? _ ⟨_, 0, none⟩ = some (.int .i64 x.item) := (B1.2).at 0 rfl
 have x1 : World.cell? _ ⟨_, 1, none⟩ = some (.int .i64 x.frm) := (B1.2).at 1 rfl
 have x2 : World.cell? _ ⟨_, 2, none⟩ = some (.int .i64 x.to) := (B1.2).at 2 rfl
 have H := Lib.hid (show _ ∧ _ ∧ _ from ⟨B0.1.trans B1.1, B0.2.grow B1.1, B1.2⟩)
 clear B0 B1 hm hf
 unfold mcells moveV at H m0 m1 m2 m3 m4 m5 m6 m7 m8 m9 m10 x0 x1 x2 ⊢
 go_enter Tryz.func19, Tryz.ntmps19
 go_wp2_with fail
 clear m0 m1 m2 m3 m4 m5 m6 m7 m8 m9 m10 x0 x1 x2
 generalize w.heap.size + 1 = bx at H ⊢
 generalize w.heap.size = bm at H ⊢
 generalize (w.alloc _).alloc _ = W at H ⊢
 have G := Lib.hid (show Gr w W from H.out.1)
 have TM := Lib.hid (show Cells W bm (mcells P M) from H.out.2.1)
 have TX := Lib.hid (show Cells W bx (moveV x) from H.out.2.2)
 have HM := Lib.hid (HM0.out.grow G.out)
 clear H
 refine (cat_Valid W P M HM.out HF.out (HT.out.grow G.out)).mono ?_
 rintro _ w1 ⟨r1, rfl, g1, h⟩
 have G := Lib.hid (G.out.trans g1)
 have TM := Lib.hid (TM.out.grow g1)
 have TX := Lib.hid (TX.out.grow g1)
 have HM := Lib.hid (HM.out.grow g1)
 clear g1
 rcases h.cases with ⟨rfl, k1⟩ | ⟨rfl, k1⟩
 ·have HV := Lib.hid k1
  clear h k1
  have m0 := mc0 TM.out _ (Gr.refl _)
  have m1 := mc1 TM.out _ (Gr.refl _)
  have m2 := mc2 TM.out _ (Gr.refl _)
  have m3 := mc3 TM.out _ (Gr.refl _)
  have m4 := mc4 TM.out _ (Gr.refl _)
  have m5 := mc5 TM.out _ (Gr.refl _)
  have m6 := mc6 TM.out _ (Gr.refl _)
  have m7 := mc7 TM.out _ (Gr.refl _)
  have m8 := mc8 TM.out _ (Gr.refl _)
  have m9 := mc9 TM.out _ (Gr.refl _)
  have m10 := mc10 TM.out _ (Gr.refl _)
  have x0 : World.cell? _ ⟨_, 0, none⟩ = some (.int .i64 x.item) := (TX.out).at 0 rfl
  have x1 : World.cell? _ ⟨_, 1, none⟩ = some (.int .i64 x.frm) := (TX.out).at 1 rfl
  have x2 : World.cell? _ ⟨_, 2, none⟩ = some (.int .i64 x.to) := (TX.out).at 2 rfl
  go_wp2_with fail
  clear m0 m1 m2 m3 m4 m5 m6 m7 m8 m9 m10
  refine (mv_fits w1 P M x HM.out HF.out HV.out).mono ?_
  rintro _ w2 ⟨_, rfl, g2, rfl⟩
  have G := Lib.hid (G.out.trans g2)
  obtain ⟨t, ht⟩ : ∃ t, fitsM M x = t := ⟨_, rfl⟩
  rw [ht]
  have HT2 := Lib.hid ht
  clear ht g2
  go_wp2_with fail
  go_ret
  exact ⟨_, rfl, G.out, t, rfl, ⟨fun h => ⟨HV.out, HT2.out.trans h⟩, fun h => HT2.out.symm.trans h.2⟩⟩
 ·have HV := Lib.hid k1
  clear h k1
  go_wp2_with fail
  go_ret
  exact ⟨_, rfl, G.out, Tells.no fun h => HV.out h.1⟩
theorem ref_HasInt (w : World) (p : Option Addr) (c : Nat) (l : List Int) (n : Int) (hl : IntL w (.slice p l.length c) l) (hb : l.length ≤ 1000000) :
  Calls Tryz.prog 88 #[.slice p l.length c, .int .i64 n] w (Ret w fun r _ => r = .bool (l.contains n)) := by
 have HL := Lib.hid hl
 clear hl
 go_enter Tryz.func88, Tryz.ntmps88
 go_wp2_with fail
 go_loopw [5] (fun i w9 => ∃ k : Nat, i = .int .i64 (k : Int) ∧ k ≤ l.length ∧ (∀ (j : Nat) (x : Int), j < k → l[j]? = some x → x ≠ n) ∧ Gr w w9) (fun i _ => l.length - (RowKit.intOf i).toNat)
 case atStart => exact ⟨0, rfl, Nat.zero_le _, fun j x hj => by omega, Gr.refl _⟩
 case round =>
  obtain ⟨k, rfl, hk, hp, hg⟩ := hrel
  have HP := Lib.hid hp
  have GL := Lib.hid hg
  clear hp hg
  by_cases hlt : k < l.length
  ·have hlt' : (k : Int) < (l.length : Int) := by omega
   obtain ⟨b, o, x, rfl, hx, hc⟩ := int_at (HL.out.grow GL.out) rfl hlt
   have HX := Lib.hid hx
   have c0 := hc _ (Gr.refl _)
   clear hx hc
   by_cases e : x = n
   ·subst e
    go_wp2_with fail
    try rw [Exit.noGoto_ret]
    go_ret
    exact ⟨_, rfl, GL.out, by rw [List.contains_iff_mem.2 (List.mem_of_getElem? HX.out)]; rfl⟩
   ·have e0 : (x == n) = false := by simpa using e
    have E := Lib.hid e
    clear e
    go_wp2_with fail
    refine ⟨⟨k + 1, by go_num, by omega, fun j y hj hy => ?_, GL.out⟩, by simp [RowKit.intOf]; omega⟩
    by_cases h : j = k
    ·subst h
     obtain rfl : y = x := Option.some.inj (hy.symm.trans HX.out)
     exact E.out
    ·exact HP.out j y (by omega) hy
  ·obtain rfl : k = l.length := by omega
   have hno : l.contains n = false := by
    cases hc : l.contains n with
    | false => rfl
    | true =>
     obtain ⟨i, hi, e⟩ := List.getElem_of_mem (List.contains_iff_mem.1 hc)
     exact absurd e (HP.out i _ hi (List.getElem?_eq_getElem hi))
   have HNO := Lib.hid hno
   clear hno
   go_wp2_with fail
   try rw [Exit.noGoto_ret]
   go_ret
   exact ⟨_, rfl, GL.out, by rw [HNO.out]; rfl⟩
set_option maxRecDepth 100000 in
set_option maxHeartbeats 1600000 in
theorem ref_free (w : World) (P : Ptrs) (M : Mdl) (it : ItemM) (n : Int) (hm : MdlAt w P M) (hf : Few M) (hi : ItemOn w it) (hl : it.on.length ≤ 1000000) :
  Calls Tryz.prog 89 #[.agg (mcells P M), .agg (itV it), .int .i64 n] w (Ret w fun r _ => r = .bool (freeI M it n)) := by
 have HM := Lib.hid hm
 have HF := Lib.hid hf
 have HI := Lib.hid hi
 have B0 := Cells.new w (mcells P M) 29
 have B2 := Cells.new (w.alloc (.cells (mcells P M) 29)) (itV it) 61
 simp only [World.size_alloc] at B2
 have H := Lib.hid (show _ ∧ _ ∧ _ from ⟨B0.1.trans B2.1, B0.2.grow B2.1, B2.2⟩)
 clear B0 B2 hm hf hi
 unfold mcells itV at H
 unfold mcells itV
 go_enter Tryz.func89, Tryz.ntmps89
 go_wp2_with fail
 generalize w.heap.size + 1 = bi at H ⊢
 generalize w.heap.size = bm at H ⊢
 generalize (w.alloc _).alloc _ = W at H ⊢
 have G := Lib.hid (show Gr w W from H.out.1)
 have TM := Lib.hid (show Cells W bm (mcells P M) from H.out.2.1)
 have TI := Lib.hid (show Cells W bi (itV it) from H.out.2.2)
 have HM := Lib.hid (HM.out.grow G.out)
 have HI := Lib.hid (show ItemOn W it from SlL.grow HI.out G.out)
 clear H
 have g0 : Gr W W.drew := (Gr.refl _).drew
 have m0 := mc0 TM.out
 have m1 := mc1 TM.out
 have m2 := mc2 TM.out
 have m3 := mc3 TM.out
 have m4 := mc4 TM.out
 have m5 := mc5 TM.out
 have m6 := mc6 TM.out
 have m7 := mc7 TM.out
 have m8 := mc8 TM.out
 have m9 := mc9 TM.out
 have m10 := mc10 TM.out
 try dsimp only at m0 m1 m2 m3 m4 m5 m6 m7 m8 m9 m10
 have i0 : ∀ w', Gr W w' → w'.cell? ⟨bi, 0, none⟩ = some (.string ⟨it.name.toArray⟩) := TI.out.c 0 rfl
 have i1 : ∀ w', Gr W w' → w'.cell? ⟨bi, 1, none⟩ = some (.int .i64 it.kind) := TI.out.c 1 rfl
 have i2 : ∀ w', Gr W w' → w'.cell? ⟨bi, 2, none⟩ = some (.int .i64 it.count) := TI.out.c 2 rfl
 have i3 : ∀ w', Gr W w' → w'.cell? ⟨bi, 3, none⟩ = some (.int .i64 it.load) := TI.out.c 3 rfl
 have i4 : ∀ w', Gr W w' → w'.cell? ⟨bi, 4, none⟩ = some (.int .i64 it.size) := TI.out.c 4 rfl
 have i5 : ∀ w', Gr W w' → w'.cell? ⟨bi, 5, none⟩ = some (.int .i64 it.share) := TI.out.c 5 rfl
 have i6 : ∀ w', Gr W w' → w'.cell? ⟨bi, 6, none⟩ = some (.slice it.onP it.on.length it.onC) := TI.out.c 6 rfl
 refine wp_region_fast [(0, true), (1, true), (2, true), (3, true), (4, false), (5, true), (6, true), (7, true), (8, true), (9, false), (10, true), (11, true), (12, true), (13, true), (14, true), (16, true), (17, true), (15, false), (18, true), (19, true), (20, true)] (by kernel_rfl) (by kernel_rfl) rfl (by kernel_rfl) (fun _ _ d _ _ h => by cases d <;> exact h) ?_
 repeat (first | (refine wpE_skip rfl rfl ?_; go_simp) | (refine wpE_readB (v := ?_) g0 rfl rfl (fun w' hg => ?_) (fun K hK => ?_); rotate_left; (go_simp; rfl); go_simp; refine hK _ _ ?_; clear hK K))
 refine wpE_fn (args := ?_) rfl rfl rfl rfl rfl rfl (by kernel_rfl) (by kernel_rfl) ?_ (fun K hK => ?_)
 rotate_left
 ·go_simp; rfl
 refine (ref_Exists _ _ _).mono ?_
 rintro _ w2 ⟨⟨r2, rfl, h2⟩, rfl⟩
 refine ⟨_, rfl, Gr.refl _, ?_⟩
 go_simp
 refine hK _ _ ?_
 clear hK K
 rcases h2.cases with ⟨rfl, k1⟩ | ⟨rfl, k1⟩
 ·have H1 := Lib.hid (show (decide (1 ≤ n) && decide (n ≤ (M.machs.length : Int))) = true by simp; exact k1)
  clear k1 h2
  repeat (first | (refine wpE_skip rfl rfl ?_; go_simp) | (refine wpE_readB (v := ?_) g0 rfl rfl (fun w' hg => ?_) (fun K hK => ?_); rotate_left; (go_simp; rfl); go_simp; refine hK _ _ ?_; clear hK K))
  refine wpE_fn (args := ?_) rfl rfl rfl rfl rfl rfl (by kernel_rfl) (by kernel_rfl) ?_ (fun K hK => ?_)
  rotate_left
  ·go_simp; rfl
  refine (ref_HasInt _ it.onP it.onC it.on n (SlL.grow HI.out g0) hl).mono ?_
  rintro _ w3 ⟨_, rfl, g3, rfl⟩
  obtain ⟨t, ht⟩ : ∃ t, it.on.contains n = t := ⟨_, rfl⟩
  rw [ht]
  have HT := Lib.hid ht
  clear ht
  refine ⟨_, rfl, g3, ?_⟩
  go_simp
  refine hK _ _ ?_
  clear hK K
  replace g0 := g0.trans g3
  cases t
  ·repeat (first | (refine wpE_skip rfl rfl ?_; go_simp) | (refine wpE_readB (v := ?_) g0 rfl rfl (fun w' hg => ?_) (fun K hK => ?_); rotate_left; (go_simp; rfl); go_simp; refine hK _ _ ?_; clear hK K))
   refine wpE_fn (args := ?_) rfl rfl rfl rfl rfl rfl (by kernel_rfl) (by kernel_rfl) ?_ (fun K hK => ?_)
   rotate_left
   ·go_simp; rfl
   refine (ref_Domain4 _ _ M n (HM.out.grow g0) HF.out).mono ?_
   rintro _ w4 ⟨_, rfl, g4, rfl⟩
   refine ⟨_, rfl, g4, ?_⟩
   go_simp
   refine hK _ _ ?_
   clear hK K
   replace g0 := g0.trans g4
   repeat (first | (refine wpE_skip rfl rfl ?_; go_simp) | (refine wpE_readB (v := ?_) g0 rfl rfl (fun w' hg => ?_) (fun K hK => ?_); rotate_left; (go_simp; rfl); go_simp; refine hK _ _ ?_; clear hK K))
   refine wpE_nil ?_
   go_wp2_with fail
   go_ret
   exact ⟨_, rfl, G.out.trans g0, by unfold freeI; rw [H1.out, HT.out]; rfl⟩
  ·repeat (first | (refine wpE_skip rfl rfl ?_; go_simp) | (refine wpE_readB (v := ?_) g0 rfl rfl (fun w' hg => ?_) (fun K hK => ?_); rotate_left; (go_simp; rfl); go_simp; refine hK _ _ ?_; clear hK K))
   refine wpE_nil ?_
   go_wp2_with fail
   go_ret
   exact ⟨_, rfl, G.out.trans g0, by unfold freeI; rw [H1.out, HT.out]; rfl⟩
 ·have H1 := Lib.hid (show (decide (1 ≤ n) && decide (n ≤ (M.machs.length : Int))) = false by
   rw [Bool.eq_false_iff]; intro h; simp at h; exact k1 h)
  clear k1 h2
  repeat (first | (refine wpE_skip rfl rfl ?_; go_simp) | (refine wpE_readB (v := ?_) g0 rfl rfl (fun w' hg => ?_) (fun K hK => ?_); rotate_left; (go_simp; rfl); go_simp; refine hK _ _ ?_; clear hK K))
  refine wpE_nil ?_
  go_wp2_with fail
  go_ret
  exact ⟨_, rfl, G.out.trans g0, by unfold freeI; rw [H1.out]; rfl⟩
end Go.Proofs.YtnlocdijdfclcaaGreatDoor
namespace Go.Proofs.YtnlocdijdfclcaaGreatDoor
open Go.RowKit Go.Lib Lex
set_option linter.unusedVariables false
set_option linter.unusedSimpArgs false

def srcI (frm : Int) (it : ItemM) : Int := if frm ≠ 0 then frm else it.on.headD 0
def crossM (M : Mdl) (xf xt : Int) (it : ItemM) : Bool := decide (0 < it.size) && (placeM M (srcI xf it) != placeM M xt)
theorem ref_source (w : World) (it : ItemM) (xf : Int) (hi : ItemOn w it) (hs : xf ≠ 0 ∨ it.on ≠ []) : Calls Tryz.prog 132 #[.agg (itV it), .int .i64 xf] w (Ret w fun r _ => r = .int .i64 (srcI xf it)) := by
 have B2 := Cells.new w (itV it) 61
 have i0 : World.cell? _ ⟨_, 0, none⟩ = some (.string ⟨it.name.toArray⟩) := (B2.2).at 0 rfl
 have i1 : World.cell? _ ⟨_, 1, none⟩ = some (.int .i64 it.kind) := (B2.2).at 1 rfl
 have i2 : World.cell? _ ⟨_, 2, none⟩ = some (.int .i64 it.count) := (B2.2).at 2 rfl
 have i3 : World.cell? _ ⟨_, 3, none⟩ = some (.int .i64 it.load) := (B2.2).at 3 rfl
 have i4 : World.cell? _ ⟨_, 4, none⟩ = some (.int .i64 it.size) := (B2.2).at 4 rfl
 have i5 : World.cell? _ ⟨_, 5, none⟩ = some (.int .i64 it.share) := (B2.2).at 5 rfl
 have i6 : World.cell? _ ⟨_, 6, none⟩ = some (.slice it.onP it.on.length it.onC) := (B2.2).at 6 rfl
 have G := Lib.hid B2.1
 have HI := Lib.hid (show IntL _ (.slice it.onP it.on.length it.onC) it.on from SlL.grow hi B2.1)
 clear B2 hi
 unfold itV at *
 generalize it.onP = pp at *
 by_cases h0 : xf = 0
 ·have hne := hs.resolve_left (fun h => h h0)
  have hpos : 0 < it.on.length := List.length_pos_iff.2 hne
  have hpos' : (0 : Int) < (it.on.length : Int) := by omega
  obtain ⟨b, o, y, rfl, hy, hc⟩ := int_at HI.out rfl hpos
  have c0 := hc _ (Gr.refl _)
  rw [Nat.add_zero] at c0
  have HR := Lib.hid (show srcI xf it = y from by
   unfold srcI
   rw [if_neg (by simpa using h0)]
   cases hl : it.on with
   | nil => exact absurd hl hne
   | cons z l => rw [hl] at hy; simp at hy; simpa using hy)
  have e0 : (xf != 0) = false := by simpa using h0
  clear hs hc hy hne h0
  go_enter Tryz.func132, Tryz.ntmps132
  go_wp2_with fail
  go_ret
  exact ⟨_, rfl, G.out, by rw [HR.out]; rfl⟩
 ·have e0 : (xf != 0) = true := by simpa using h0
  have HR := Lib.hid (show srcI xf it = xf from by unfold srcI; rw [if_pos h0])
  clear hs
  go_enter Tryz.func132, Tryz.ntmps132
  go_wp2_with fail
  try rw [Exit.noGoto_ret]
  go_ret
  exact ⟨_, rfl, G.out, by rw [HR.out]; rfl⟩
set_option maxRecDepth 100000 in
set_option maxHeartbeats 1600000 in
theorem ref_crosses (w : World) (P : Ptrs) (M : Mdl) (k : Nat) (xf xt : Int) (it : ItemM) (hm : MdlAt w P M) (hf : Few M) (hit : M.items[k]? = some it) (hs : xf ≠ 0 ∨ it.on ≠ []) :
  Calls Tryz.prog 90 #[.agg (mcells P M), .agg #[.int .i64 ((k : Int) + 1), .int .i64 xf, .int .i64 xt]] w (Ret w fun r _ => r = .bool (crossM M xf xt it)) := by
 have HS := Lib.hid hs
 clear hs
 obtain ⟨p0, c0, p1, c1, p2, c2, p3, c3, p4, c4, p5, c5, p6, c6⟩ := P
 have HF := Lib.hid hf
 have HM0 := Lib.hid hm
 have HIT := Lib.hid hit
 have hlt : k < M.items.length := (List.getElem?_eq_some_iff.1 hit).1
 have B0 := Cells.new w (mcells ⟨p0, c0, p1, c1, p2, c2, p3, c3, p4, c4, p5, c5, p6, c6⟩ M) 29
 have B1 := Cells.new (w.alloc (.cells (mcells ⟨p0, c0, p1, c1, p2, c2, p3, c3, p4, c4, p5, c5, p6, c6⟩ M) 29)) #[.int .i64 ((k : Int) + 1), .int .i64 xf, .int .i64 xt] 34
 simp only [World.size_alloc] at B1
 have hfew := HF.out.1
 obtain ⟨b, o, it', hpp, hit', hc⟩ := item_at (hm.grow (B0.1.trans B1.1)).items rfl hlt
 obtain rfl : it = it' := Option.some.inj (hit.symm.trans hit')
 obtain rfl : p5 = some ⟨b, o, none⟩ := hpp
 have m5 := mc5 B0.2 _ B1.1
 have x0 := B1.2.at 0 rfl
 have x1 := B1.2.at 1 rfl
 have x2 := B1.2.at 2 rfl
 have hlt' : (k : Int) < (M.items.length : Int) := by omega
 have hw1 : IntKind.i64.wrap ((k : Int) + 1 - 1) = (k : Int) := by rw [IntKind.wrap_i64]; omega
 obtain ⟨y0, y1, y2, y3, y4, y5, y6⟩ := hc _ (Gr.refl _)
 have B2 := Cells.new ((w.alloc (.cells (mcells ⟨p0, c0, p1, c1, p2, c2, p3, c3, p4, c4, some ⟨b, o, none⟩, c5, p6, c6⟩ M) 29)).alloc (.cells #[.int .i64 ((k : Int) + 1), .int .i64 xf, .int .i64 xt] 34)) (itV it) 61
 simp only [World.size_alloc] at B2
 have HB := Lib.hid (show _ ∧ _ ∧ _ ∧ _ from ⟨(B0.1.trans B1.1).trans B2.1, (B0.2.grow B1.1).grow B2.1, B1.2.grow B2.1, B2.2⟩)
 clear B0 B1 B2 hm hf hc hit hit'
 unfold itV mcells at HB
 unfold mcells at m5 x0 x1 x2 y0 y1 y2 y3 y4 y5 y6 ⊢
 go_enter Tryz.func90, Tryz.ntmps90
 go_wp2_with fail
 clear m5 x0 x1 x2 y0 y1 y2 y3 y4 y5 y6
 generalize w.heap.size + 1 + 1 = bi at HB ⊢
 generalize w.heap.size + 1 = bx at HB ⊢
 generalize w.heap.size = bm at HB ⊢
 generalize ((w.alloc _).alloc _).alloc _ = W at HB ⊢
 have G := Lib.hid (show Gr w W from HB.out.1)
 have HM := Lib.hid (HM0.out.grow G.out)
 have HI := Lib.hid (HM.out.ons it (List.mem_of_getElem? HIT.out))
 have TM := Lib.hid (show Cells W bm (mcells ⟨p0, c0, p1, c1, p2, c2, p3, c3, p4, c4, some ⟨b, o, none⟩, c5, p6, c6⟩ M) from HB.out.2.1)
 have TX := Lib.hid (show Cells W bx (moveV ⟨(k : Int) + 1, xf, xt⟩) from HB.out.2.2.1)
 have TI := Lib.hid (show Cells W bi (itV it) from HB.out.2.2.2)
 clear HB
 have g0 : Gr W W.drew := (Gr.refl _).drew
 have m0 := mc0 TM.out
 have m1 := mc1 TM.out
 have m2 := mc2 TM.out
 have m3 := mc3 TM.out
 have m4 := mc4 TM.out
 have m5 := mc5 TM.out
 have m6 := mc6 TM.out
 have m7 := mc7 TM.out
 have m8 := mc8 TM.out
 have m9 := mc9 TM.out
 have m10 := mc10 TM.out
 try dsimp only at m0 m1 m2 m3 m4 m5 m6 m7 m8 m9 m10
 have x0 : ∀ w', Gr W w' → w'.cell? ⟨bx, 0, none⟩ = some (.int .i64 ((k : Int) + 1)) := TX.out.c 0 rfl
 have x1 : ∀ w', Gr W w' → w'.cell? ⟨bx, 1, none⟩ = some (.int .i64 xf) := TX.out.c 1 rfl
 have x2 : ∀ w', Gr W w' → w'.cell? ⟨bx, 2, none⟩ = some (.int .i64 xt) := TX.out.c 2 rfl
 have i0 : ∀ w', Gr W w' → w'.cell? ⟨bi, 0, none⟩ = some (.string ⟨it.name.toArray⟩) := TI.out.c 0 rfl
 have i1 : ∀ w', Gr W w' → w'.cell? ⟨bi, 1, none⟩ = some (.int .i64 it.kind) := TI.out.c 1 rfl
 have i2 : ∀ w', Gr W w' → w'.cell? ⟨bi, 2, none⟩ = some (.int .i64 it.count) := TI.out.c 2 rfl
 have i3 : ∀ w', Gr W w' → w'.cell? ⟨bi, 3, none⟩ = some (.int .i64 it.load) := TI.out.c 3 rfl
 have i4 : ∀ w', Gr W w' → w'.cell? ⟨bi, 4, none⟩ = some (.int .i64 it.size) := TI.out.c 4 rfl
 have i5 : ∀ w', Gr W w' → w'.cell? ⟨bi, 5, none⟩ = some (.int .i64 it.share) := TI.out.c 5 rfl
 have i6 : ∀ w', Gr W w' → w'.cell? ⟨bi, 6, none⟩ = some (.slice it.onP it.on.length it.onC) := TI.out.c 6 rfl
 obtain ⟨t2, h2⟩ : ∃ t, decide (0 < it.size) = t := ⟨_, rfl⟩
 have H2 := Lib.hid h2
 refine wp_region_fast [(0, true), (1, true), (2, true), (3, true), (4, true), (5, true), (6, true), (7, true), (10, true), (11, true), (12, true), (8, false), (9, false), (13, false), (14, true), (15, true), (16, true)] (by kernel_rfl) (by kernel_rfl) rfl (by kernel_rfl) (fun _ _ d _ _ h => by cases d <;> exact h) ?_
 cases t2
 ·repeat (first | (refine wpE_skip rfl rfl ?_; go_simp) | (refine wpE_readB (v := ?_) g0 rfl rfl (fun w' hg => ?_) (fun K hK => ?_); rotate_left; (go_simp; rfl); go_simp; refine hK _ _ ?_; clear hK K))
  refine wpE_nil ?_
  go_wp2_with fail
  go_ret
  exact ⟨_, rfl, G.out.trans g0, by unfold crossM; rw [H2.out]; rfl⟩
 ·repeat (first | (refine wpE_skip rfl rfl ?_; go_simp) | (refine wpE_readB (v := ?_) g0 rfl rfl (fun w' hg => ?_) (fun K hK => ?_); rotate_left; (go_simp; rfl); go_simp; refine hK _ _ ?_; clear hK K))
  refine wpE_fn (args := ?_) rfl rfl rfl rfl rfl rfl (by kernel_rfl) (by kernel_rfl) ?_ (fun K hK => ?_)
  rotate_left
  ·go_simp; rfl
  refine (ref_source _ it xf (SlL.grow HI.out g0) HS.out).mono ?_
  rintro _ w2 ⟨_, rfl, g2, rfl⟩
  refine ⟨_, rfl, g2, ?_⟩
  go_simp
  refine hK _ _ ?_
  clear hK K
  replace g0 := g0.trans g2
  refine wpE_fn (args := ?_) rfl rfl rfl rfl rfl rfl (by kernel_rfl) (by kernel_rfl) ?_ (fun K hK => ?_)
  rotate_left
  ·go_simp; rfl
  refine (ref_Domain4 _ _ M _ (HM.out.grow g0) HF.out).mono ?_
  rintro _ w3 ⟨_, rfl, g3, rfl⟩
  refine ⟨_, rfl, g3, ?_⟩
  go_simp
  refine hK _ _ ?_
  clear hK K
  replace g0 := g0.trans g3
  refine wpE_fn (args := ?_) rfl rfl rfl rfl rfl rfl (by kernel_rfl) (by kernel_rfl) ?_ (fun K hK => ?_)
  rotate_left
  ·go_simp; rfl
  refine (ref_Domain4 _ _ M _ (HM.out.grow g0) HF.out).mono ?_
  rintro _ w4 ⟨_, rfl, g4, rfl⟩
  refine ⟨_, rfl, g4, ?_⟩
  go_simp
  refine hK _ _ ?_
  clear hK K
  replace g0 := g0.trans g4
  repeat (first | (refine wpE_skip rfl rfl ?_; go_simp) | (refine wpE_readB (v := ?_) g0 rfl rfl (fun w' hg => ?_) (fun K hK => ?_); rotate_left; (go_simp; rfl); go_simp; refine hK _ _ ?_; clear hK K))
  refine wpE_nil ?_
  go_wp2_with fail
  go_ret
  exact ⟨_, rfl, G.out.trans g0, by unfold crossM; rw [H2.out]; rfl⟩
set_option maxRecDepth 100000 in
set_option maxHeartbeats 1600000 in
theorem ref_link (w : World) (P : Ptrs) (M : Mdl) (k : Nat) (xf xt : Int) (it : ItemM) (hm : MdlAt w P M) (hf : Few M) (hit : M.items[k]? = some it) (hs : xf ≠ 0 ∨ it.on ≠ []) :
  Calls Tryz.prog 91 #[.agg (mcells P M), .agg #[.int .i64 ((k : Int) + 1), .int .i64 xf, .int .i64 xt]] w (Ret w fun r _ => r = .int .i64 (linkM M (placeM M (srcI xf it)) (placeM M xt))) := by
 have HS := Lib.hid hs
 clear hs
 obtain ⟨p0, c0, p1, c1, p2, c2, p3, c3, p4, c4, p5, c5, p6, c6⟩ := P
 have HF := Lib.hid hf
 have HM0 := Lib.hid hm
 have HIT := Lib.hid hit
 have hlt : k < M.items.length := (List.getElem?_eq_some_iff.1 hit).1
 have B0 := Cells.new w (mcells ⟨p0, c0, p1, c1, p2, c2, p3, c3, p4, c4, p5, c5, p6, c6⟩ M) 29
 have B1 := Cells.new (w.alloc (.cells (mcells ⟨p0, c0, p1, c1, p2, c2, p3, c3, p4, c4, p5, c5, p6, c6⟩ M) 29)) #[.int .i64 ((k : Int) + 1), .int .i64 xf, .int .i64 xt] 34
 simp only [World.size_alloc] at B1
 have hfew := HF.out.1
 obtain ⟨b, o, it', hpp, hit', hc⟩ := item_at (hm.grow (B0.1.trans B1.1)).items rfl hlt
 obtain rfl : it = it' := Option.some.inj (hit.symm.trans hit')
 obtain rfl : p5 = some ⟨b, o, none⟩ := hpp
 have m5 := mc5 B0.2 _ B1.1
 have x0 := B1.2.at 0 rfl
 have x1 := B1.2.at 1 rfl
 have x2 := B1.2.at 2 rfl
 have hlt' : (k : Int) < (M.items.length : Int) := by omega
 have hw1 : IntKind.i64.wrap ((k : Int) + 1 - 1) = (k : Int) := by rw [IntKind.wrap_i64]; omega
 obtain ⟨y0, y1, y2, y3, y4, y5, y6⟩ := hc _ (Gr.refl _)
 have B2 := Cells.new ((w.alloc (.cells (mcells ⟨p0, c0, p1, c1, p2, c2, p3, c3, p4, c4, some ⟨b, o, none⟩, c5, p6, c6⟩ M) 29)).alloc (.cells #[.int .i64 ((k : Int) + 1), .int .i64 xf, .int .i64 xt] 34)) (itV it) 61
 simp only [World.size_alloc] at B2
 have HB := Lib.hid (show _ ∧ _ ∧ _ ∧ _ from ⟨(B0.1.trans B1.1).trans B2.1, (B0.2.grow B1.1).grow B2.1, B1.2.grow B2.1, B2.2⟩)
 clear B0 B1 B2 hm hf hc hit hit'
 unfold itV mcells at HB
 unfold mcells at m5 x0 x1 x2 y0 y1 y2 y3 y4 y5 y6 ⊢
 go_enter Tryz.func91, Tryz.ntmps91
 go_wp2_with fail
 clear m5 x0 x1 x2 y0 y1 y2 y3 y4 y5 y6
 generalize w.heap.size + 1 + 1 = bi at HB ⊢
 generalize w.heap.size + 1 = bx at HB ⊢
 generalize w.heap.size = bm at HB ⊢
 generalize ((w.alloc _).alloc _).alloc _ = W at HB ⊢
 have G := Lib.hid (show Gr w W from HB.out.1)
 have HM := Lib.hid (HM0.out.grow G.out)
 have HI := Lib.hid (HM.out.ons it (List.mem_of_getElem? HIT.out))
 have TM := Lib.hid (show Cells W bm (mcells ⟨p0, c0, p1, c1, p2, c2, p3, c3, p4, c4, some ⟨b, o, none⟩, c5, p6, c6⟩ M) from HB.out.2.1)
 have TX := Lib.hid (show Cells W bx (moveV ⟨(k : Int) + 1, xf, xt⟩) from HB.out.2.2.1)
 have TI := Lib.hid (show Cells W bi (itV it) from HB.out.2.2.2)
 clear HB
 have g0 : Gr W W.drew := (Gr.refl _).drew
 have m0 := mc0 TM.out
 have m1 := mc1 TM.out
 have m2 := mc2 TM.out
 have m3 := mc3 TM.out
 have m4 := mc4 TM.out
 have m5 := mc5 TM.out
 have m6 := mc6 TM.out
 have m7 := mc7 TM.out
 have m8 := mc8 TM.out
 have m9 := mc9 TM.out
 have m10 := mc10 TM.out
 try dsimp only at m0 m1 m2 m3 m4 m5 m6 m7 m8 m9 m10
 have x0 : ∀ w', Gr W w' → w'.cell? ⟨bx, 0, none⟩ = some (.int .i64 ((k : Int) + 1)) := TX.out.c 0 rfl
 have x1 : ∀ w', Gr W w' → w'.cell? ⟨bx, 1, none⟩ = some (.int .i64 xf) := TX.out.c 1 rfl
 have x2 : ∀ w', Gr W w' → w'.cell? ⟨bx, 2, none⟩ = some (.int .i64 xt) := TX.out.c 2 rfl
 have i0 : ∀ w', Gr W w' → w'.cell? ⟨bi, 0, none⟩ = some (.string ⟨it.name.toArray⟩) := TI.out.c 0 rfl
 have i1 : ∀ w', Gr W w' → w'.cell? ⟨bi, 1, none⟩ = some (.int .i64 it.kind) := TI.out.c 1 rfl
 have i2 : ∀ w', Gr W w' → w'.cell? ⟨bi, 2, none⟩ = some (.int .i64 it.count) := TI.out.c 2 rfl
 have i3 : ∀ w', Gr W w' → w'.cell? ⟨bi, 3, none⟩ = some (.int .i64 it.load) := TI.out.c 3 rfl
 have i4 : ∀ w', Gr W w' → w'.cell? ⟨bi, 4, none⟩ = some (.int .i64 it.size) := TI.out.c 4 rfl
 have i5 : ∀ w', Gr W w' → w'.cell? ⟨bi, 5, none⟩ = some (.int .i64 it.share) := TI.out.c 5 rfl
 have i6 : ∀ w', Gr W w' → w'.cell? ⟨bi, 6, none⟩ = some (.slice it.onP it.on.length it.onC) := TI.out.c 6 rfl
 refine wp_region_fast [(0, true), (1, true), (2, true), (3, true), (4, true), (7, true), (8, true), (9, true), (5, false), (6, false), (10, false), (11, false), (12, true)] (by kernel_rfl) (by kernel_rfl) rfl (by kernel_rfl) (fun _ _ d _ _ h => by cases d <;> exact h) ?_
 repeat (first | (refine wpE_skip rfl rfl ?_; go_simp) | (refine wpE_readB (v := ?_) g0 rfl rfl (fun w' hg => ?_) (fun K hK => ?_); rotate_left; (go_simp; rfl); go_simp; refine hK _ _ ?_; clear hK K))
 refine wpE_fn (args := ?_) rfl rfl rfl rfl rfl rfl (by kernel_rfl) (by kernel_rfl) ?_ (fun K hK => ?_)
 rotate_left
 ·go_simp; rfl
 refine (ref_source _ it xf (SlL.grow HI.out g0) HS.out).mono ?_
 rintro _ w2 ⟨_, rfl, g2, rfl⟩
 refine ⟨_, rfl, g2, ?_⟩
 go_simp
 refine hK _ _ ?_
 clear hK K
 replace g0 := g0.trans g2
 refine wpE_fn (args := ?_) rfl rfl rfl rfl rfl rfl (by kernel_rfl) (by kernel_rfl) ?_ (fun K hK => ?_)
 rotate_left
 ·go_simp; rfl
 refine (ref_Domain4 _ _ M _ (HM.out.grow g0) HF.out).mono ?_
 rintro _ w3 ⟨_, rfl, g3, rfl⟩
 refine ⟨_, rfl, g3, ?_⟩
 go_simp
 refine hK _ _ ?_
 clear hK K
 replace g0 := g0.trans g3
 refine wpE_fn (args := ?_) rfl rfl rfl rfl rfl rfl (by kernel_rfl) (by kernel_rfl) ?_ (fun K hK => ?_)
 rotate_left
 ·go_simp; rfl
 refine (ref_Domain4 _ _ M _ (HM.out.grow g0) HF.out).mono ?_
 rintro _ w4 ⟨_, rfl, g4, rfl⟩
 refine ⟨_, rfl, g4, ?_⟩
 go_simp
 refine hK _ _ ?_
 clear hK K
 replace g0 := g0.trans g4
 refine wpE_fn (args := ?_) rfl rfl rfl rfl rfl rfl (by kernel_rfl) (by kernel_rfl) ?_ (fun K hK => ?_)
 rotate_left
 ·go_simp; rfl
 refine (ref_Link _ _ M _ _ (HM.out.grow g0) HF.out).mono ?_
 rintro _ w5 ⟨_, rfl, g5, rfl⟩
 refine ⟨_, rfl, g5, ?_⟩
 go_simp
 refine hK _ _ ?_
 clear hK K
 replace g0 := g0.trans g5
 repeat (first | (refine wpE_skip rfl rfl ?_; go_simp) | (refine wpE_readB (v := ?_) g0 rfl rfl (fun w' hg => ?_) (fun K hK => ?_); rotate_left; (go_simp; rfl); go_simp; refine hK _ _ ?_; clear hK K))
 refine wpE_nil ?_
 go_wp2_with fail
 go_ret
 exact ⟨_, rfl, G.out.trans g0, rfl⟩
def refFits (M : Mdl) (xf xt : Int) (it : ItemM) : Bool :=
 ((it.kind == 1) && it.on.contains xf && (xt == 0)) || ((if it.kind = 1 then (xf == 0) else it.on.contains xf) && freeI M it xt && (!crossM M xf xt it || (linkM M (placeM M (srcI xf it)) (placeM M xt) != 0)))
theorem refFits_eq (M : Mdl) (i xf xt : Int) (it : ItemM) : refFits M xf xt it = fitsI M ⟨i, xf, xt⟩ it := by
 unfold refFits fitsI shapeB apartM linkOf crossM srcM srcI
 simp only
 have hl := linkM_ge M (placeM M (if xf ≠ 0 then xf else it.on.headD 0)) (placeM M xt)
 generalize linkM M (placeM M (if xf ≠ 0 then xf else it.on.headD 0)) (placeM M xt) = L at *
 have hln : (L != 0) = decide (0 < L) := by
  rw [Bool.eq_iff_iff]; simp; omega
 rw [hln]
 generalize (placeM M (if xf ≠ 0 then xf else it.on.headD 0) != placeM M xt) = D
 have hfr : xt = 0 → freeI M it xt = false := fun h => by unfold freeI; simp [h]
 by_cases h0 : xt = 0
 ·rw [hfr h0]
  simp only [h0]
  by_cases hk : it.kind = 1
  ·simp [hk]
  ·simp [hk]
 ·have e0 : (xt == 0) = false := by simpa using h0
  have e1 : (xt != 0) = true := by simpa using h0
  rw [e0, e1]
  by_cases hk : it.kind = 1
  ·simp [hk]
  ·simp [hk]
set_option maxRecDepth 100000 in
set_option maxHeartbeats 1600000 in
theorem ref_valid' (w : World) (P : Ptrs) (M : Mdl) (xi xf xt : Int) (hm : MdlAt w P M) (hf : Few M) (hv : MdlOK M) :
  Calls Tryz.prog 57 #[.agg (mcells P M), .agg #[.int .i64 xi, .int .i64 xf, .int .i64 xt]] w (Ret w fun r _ => r = .bool (fitsM M ⟨xi, xf, xt⟩)) := by
 obtain ⟨p0, c0, p1, c1, p2, c2, p3, c3, p4, c4, p5, c5, p6, c6⟩ := P
 have HF := Lib.hid hf
 have HV := Lib.hid hv
 have HM0 := Lib.hid hm
 have B0 := Cells.new w (mcells ⟨p0, c0, p1, c1, p2, c2, p3, c3, p4, c4, p5, c5, p6, c6⟩ M) 29
 have B1 := Cells.new (w.alloc (.cells (mcells ⟨p0, c0, p1, c1, p2, c2, p3, c3, p4, c4, p5, c5, p6, c6⟩ M) 29)) #[.int .i64 xi, .int .i64 xf, .int .i64 xt] 34
 simp only [World.size_alloc] at B1
 have m5 := mc5 B0.2 _ B1.1
 have x0 := B1.2.at 0 rfl
 have H1 := Lib.hid (show _ ∧ _ ∧ _ from ⟨B0.1.trans B1.1, B0.2.grow B1.1, B1.2⟩)
 clear B0 B1 hm hf hv
 unfold mcells at H1 m5 x0 ⊢
 go_enter Tryz.func57, Tryz.ntmps57
 go_wp2_with fail
 clear m5 x0
 generalize w.heap.size + 1 = bx at H1 ⊢
 generalize w.heap.size = bm at H1 ⊢
 generalize (w.alloc _).alloc _ = W at H1 ⊢
 have G := Lib.hid (show Gr w W from H1.out.1)
 have TM := Lib.hid (show Cells W bm (mcells ⟨p0, c0, p1, c1, p2, c2, p3, c3, p4, c4, p5, c5, p6, c6⟩ M) from H1.out.2.1)
 have TX := Lib.hid (show Cells W bx #[.int .i64 xi, .int .i64 xf, .int .i64 xt] from H1.out.2.2)
 clear H1
 refine (ref_Exists _ _ _).mono ?_
 rintro _ _ ⟨⟨r1, rfl, h1⟩, rfl⟩
 rcases h1.cases with ⟨rfl, k1⟩ | ⟨rfl, k1⟩
 ·obtain ⟨k, rfl⟩ : ∃ k : Nat, xi = (k : Int) + 1 := ⟨(xi - 1).toNat, by omega⟩
  have HM := Lib.hid (HM0.out.grow G.out)
  have hlt : k < M.items.length := by omega
  have hfew := HF.out.1
  obtain ⟨b, o, it, hpp, hit, hc⟩ := item_at HM.out.items rfl hlt
  obtain rfl : p5 = some ⟨b, o, none⟩ := hpp
  have hlt' : (k : Int) < (M.items.length : Int) := by omega
  have hw1 : IntKind.i64.wrap ((k : Int) + 1 - 1) = (k : Int) := by rw [IntKind.wrap_i64]; omega
  obtain ⟨y0, y1, y2, y3, y4, y5, y6⟩ := hc _ (Gr.refl _)
  have hmem := List.mem_of_getElem? hit
  have HIT := Lib.hid hit
  have HOK := Lib.hid (HV.out.2.2.2.2.1 it hmem)
  have hol := (HF.out.2.2.2.2.2.1 it hmem).2
  have HR := Lib.hid (show fitsM M ⟨(k : Int) + 1, xf, xt⟩ = refFits M xf xt it from by
   rw [refFits_eq M ((k : Int) + 1)]
   unfold fitsM
   simp only
   rw [if_pos k1, show ((k : Int) + 1 - 1).toNat = k by omega, hit])
  have B2 := Cells.new W (itV it) 61
  have m5 := mc5 TM.out _ (Gr.refl _)
  have x0 := TX.out.at 0 rfl
  have x1 := (TX.out.grow B2.1).at 1 rfl
  have i6 : World.cell? _ ⟨_, 6, none⟩ = some (.slice it.onP it.on.length it.onC) := B2.2.at 6 rfl
  have HMEM := Lib.hid hmem
  have HB := Lib.hid B2
  clear h1 k1 hit hc hmem B2
  unfold itV at HB x1 i6
  go_wp2_with fail
  clear m5 x0 x1 i6 y0 y1 y2 y3 y4 y5 y6
  generalize W.heap.size = bi at HB ⊢
  generalize W.alloc _ = W2 at HB ⊢
  have g2 := HB.out.1
  have TI := Lib.hid (show Cells W2 bi (itV it) from HB.out.2)
  have G := Lib.hid (G.out.trans g2)
  have TM := Lib.hid (TM.out.grow g2)
  have TX := Lib.hid (TX.out.grow g2)
  have HM := Lib.hid (HM0.out.grow G.out)
  have HI := Lib.hid (HM.out.ons it HMEM.out)
  clear HB g2
  refine (ref_HasInt W2 it.onP it.onC it.on xf HI.out (by omega)).mono ?_
  rintro _ w3 ⟨_, rfl, g3, rfl⟩
  have G := Lib.hid (G.out.trans g3)
  have TM := Lib.hid (TM.out.grow g3)
  have TX := Lib.hid (TX.out.grow g3)
  have TI := Lib.hid (TI.out.grow g3)
  have HM := Lib.hid (HM.out.grow g3)
  clear g3
  have HI := Lib.hid (HM.out.ons it HMEM.out)
  obtain ⟨tc, htc⟩ : ∃ t, it.on.contains xf = t := ⟨_, rfl⟩
  rw [htc]
  have HTC := Lib.hid htc
  clear htc
  obtain ⟨tk, htk⟩ : ∃ t, (it.kind == 1) = t := ⟨_, rfl⟩
  obtain ⟨t0, ht0⟩ : ∃ t, (xt == 0) = t := ⟨_, rfl⟩
  obtain ⟨tf, htf⟩ : ∃ t, (xf == 0) = t := ⟨_, rfl⟩
  have HTK := Lib.hid htk
  have HT0 := Lib.hid ht0
  have HTF := Lib.hid htf
  have i1 : World.cell? w3 ⟨bi, 1, none⟩ = some (.int .i64 it.kind) := TI.out.at 1 rfl
  have x1 := TX.out.at 1 rfl
  have x2 := TX.out.at 2 rfl
  have m0 := mc0 TM.out _ (Gr.refl _)
  have m1 := mc1 TM.out _ (Gr.refl _)
  have m2 := mc2 TM.out _ (Gr.refl _)
  have m3 := mc3 TM.out _ (Gr.refl _)
  have m4 := mc4 TM.out _ (Gr.refl _)
  have m5 := mc5 TM.out _ (Gr.refl _)
  have m6 := mc6 TM.out _ (Gr.refl _)
  have m7 := mc7 TM.out _ (Gr.refl _)
  have m8 := mc8 TM.out _ (Gr.refl _)
  have m9 := mc9 TM.out _ (Gr.refl _)
  have m10 := mc10 TM.out _ (Gr.refl _)
  try dsimp only at m0 m1 m2 m3 m4 m5 m6 m7 m8 m9 m10
  clear i1
  have i0 : World.cell? w3 ⟨_, 0, none⟩ = some (.string ⟨it.name.toArray⟩) := (TI.out).at 0 rfl
  have i1 : World.cell? w3 ⟨_, 1, none⟩ = some (.int .i64 it.kind) := (TI.out).at 1 rfl
  have i2 : World.cell? w3 ⟨_, 2, none⟩ = some (.int .i64 it.count) := (TI.out).at 2 rfl
  have i3 : World.cell? w3 ⟨_, 3, none⟩ = some (.int .i64 it.load) := (TI.out).at 3 rfl
  have i4 : World.cell? w3 ⟨_, 4, none⟩ = some (.int .i64 it.size) := (TI.out).at 4 rfl
  have i5 : World.cell? w3 ⟨_, 5, none⟩ = some (.int .i64 it.share) := (TI.out).at 5 rfl
  have i6 : World.cell? w3 ⟨_, 6, none⟩ = some (.slice it.onP it.on.length it.onC) := (TI.out).at 6 rfl
  have x0 := TX.out.at 0 rfl
  have HRF := Lib.hid (show refFits M xf xt it = ((tk && tc && t0) || ((if tk = true then tf else tc) && freeI M it xt && (!crossM M xf xt it || (linkM M (placeM M (srcI xf it)) (placeM M xt) != 0)))) from by
   unfold refFits
   rw [htk, HTC.out, ht0, htf]
   cases tk
   ·rw [if_neg (show ¬ it.kind = 1 by simpa using htk)]; rfl
   ·rw [if_pos (show it.kind = 1 by simpa using htk)]; rfl)
  cases tk
  ·cases tc
   ·go_wp2_with fail
    try rw [Exit.noGoto_ret]
    go_ret
    exact ⟨_, rfl, G.out, by rw [HR.out, HRF.out]; skip; rfl⟩
   ·go_wp2_with fail
    clear m0 m1 m2 m3 m4 m5 m6 m7 m8 m9 m10
    clear i0 i1 i2 i3 i4 i5 i6 x0 x1 x2
    refine (ref_free w3 _ M it xt HM.out HF.out HI.out (by omega)).mono ?_
    rintro _ w4 ⟨_, rfl, g4, rfl⟩
    have G := Lib.hid (G.out.trans g4)
    have TM := Lib.hid (TM.out.grow g4)
    have TX := Lib.hid (TX.out.grow g4)
    have TI := Lib.hid (TI.out.grow g4)
    have HM := Lib.hid (HM.out.grow g4)
    clear g4
    obtain ⟨tr, htr⟩ : ∃ t, freeI M it xt = t := ⟨_, rfl⟩
    rw [htr]
    have HTR := Lib.hid htr
    clear htr
    have x0 := TX.out.at 0 rfl
    have x1 := TX.out.at 1 rfl
    have x2 := TX.out.at 2 rfl
    have m0 := mc0 TM.out _ (Gr.refl _)
    have m1 := mc1 TM.out _ (Gr.refl _)
    have m2 := mc2 TM.out _ (Gr.refl _)
    have m3 := mc3 TM.out _ (Gr.refl _)
    have m4 := mc4 TM.out _ (Gr.refl _)
    have m5 := mc5 TM.out _ (Gr.refl _)
    have m6 := mc6 TM.out _ (Gr.refl _)
    have m7 := mc7 TM.out _ (Gr.refl _)
    have m8 := mc8 TM.out _ (Gr.refl _)
    have m9 := mc9 TM.out _ (Gr.refl _)
    have m10 := mc10 TM.out _ (Gr.refl _)
    try dsimp only at m0 m1 m2 m3 m4 m5 m6 m7 m8 m9 m10
    cases tr
    ·go_wp2_with fail
     try rw [Exit.noGoto_ret]
     go_ret
     exact ⟨_, rfl, G.out, by rw [HR.out, HRF.out]; rw [HTR.out]; rfl⟩
    ·go_wp2_with fail
     clear m0 m1 m2 m3 m4 m5 m6 m7 m8 m9 m10
     clear x0 x1 x2
     refine (ref_crosses w4 _ M k xf xt it HM.out HF.out HIT.out (.inr HOK.out.2.1.1)).mono ?_
     rintro _ w5 ⟨_, rfl, g5, rfl⟩
     have G := Lib.hid (G.out.trans g5)
     have TM := Lib.hid (TM.out.grow g5)
     have TX := Lib.hid (TX.out.grow g5)
     have TI := Lib.hid (TI.out.grow g5)
     have HM := Lib.hid (HM.out.grow g5)
     clear g5
     obtain ⟨tx, htx⟩ : ∃ t, crossM M xf xt it = t := ⟨_, rfl⟩
     rw [htx]
     have HTX := Lib.hid htx
     clear htx
     have x0 := TX.out.at 0 rfl
     have x1 := TX.out.at 1 rfl
     have x2 := TX.out.at 2 rfl
     have m0 := mc0 TM.out _ (Gr.refl _)
     have m1 := mc1 TM.out _ (Gr.refl _)
     have m2 := mc2 TM.out _ (Gr.refl _)
     have m3 := mc3 TM.out _ (Gr.refl _)
     have m4 := mc4 TM.out _ (Gr.refl _)
     have m5 := mc5 TM.out _ (Gr.refl _)
     have m6 := mc6 TM.out _ (Gr.refl _)
     have m7 := mc7 TM.out _ (Gr.refl _)
     have m8 := mc8 TM.out _ (Gr.refl _)
     have m9 := mc9 TM.out _ (Gr.refl _)
     have m10 := mc10 TM.out _ (Gr.refl _)
     try dsimp only at m0 m1 m2 m3 m4 m5 m6 m7 m8 m9 m10
     cases tx
     ·go_wp2_with fail
      try rw [Exit.noGoto_ret]
      go_ret
      exact ⟨_, rfl, G.out, by rw [HR.out, HRF.out]; rw [HTR.out, HTX.out]; rfl⟩
     ·go_wp2_with fail
      clear m0 m1 m2 m3 m4 m5 m6 m7 m8 m9 m10
      clear x0 x1 x2
      refine (ref_link w5 _ M k xf xt it HM.out HF.out HIT.out (.inr HOK.out.2.1.1)).mono ?_
      rintro _ w6 ⟨_, rfl, g6, rfl⟩
      have G := Lib.hid (G.out.trans g6)
      have TM := Lib.hid (TM.out.grow g6)
      have TX := Lib.hid (TX.out.grow g6)
      have TI := Lib.hid (TI.out.grow g6)
      have HM := Lib.hid (HM.out.grow g6)
      clear g6
      go_wp2_with fail
      try rw [Exit.noGoto_ret]
      go_ret
      exact ⟨_, rfl, G.out, by rw [HR.out, HRF.out]; rw [HTR.out, HTX.out]; rfl⟩
  ·cases tc
   ·cases tf
    ·go_wp2_with fail
     try rw [Exit.noGoto_ret]
     go_ret
     exact ⟨_, rfl, G.out, by rw [HR.out, HRF.out]; skip; rfl⟩
    ·go_wp2_with fail
     clear m0 m1 m2 m3 m4 m5 m6 m7 m8 m9 m10
     clear i0 i1 i2 i3 i4 i5 i6 x0 x1 x2
     refine (ref_free w3 _ M it xt HM.out HF.out HI.out (by omega)).mono ?_
     rintro _ w4 ⟨_, rfl, g4, rfl⟩
     have G := Lib.hid (G.out.trans g4)
     have TM := Lib.hid (TM.out.grow g4)
     have TX := Lib.hid (TX.out.grow g4)
     have TI := Lib.hid (TI.out.grow g4)
     have HM := Lib.hid (HM.out.grow g4)
     clear g4
     obtain ⟨tr, htr⟩ : ∃ t, freeI M it xt = t := ⟨_, rfl⟩
     rw [htr]
     have HTR := Lib.hid htr
     clear htr
     have x0 := TX.out.at 0 rfl
     have x1 := TX.out.at 1 rfl
     have x2 := TX.out.at 2 rfl
     have m0 := mc0 TM.out _ (Gr.refl _)
     have m1 := mc1 TM.out _ (Gr.refl _)
     have m2 := mc2 TM.out _ (Gr.refl _)
     have m3 := mc3 TM.out _ (Gr.refl _)
     have m4 := mc4 TM.out _ (Gr.refl _)
     have m5 := mc5 TM.out _ (Gr.refl _)
     have m6 := mc6 TM.out _ (Gr.refl _)
     have m7 := mc7 TM.out _ (Gr.refl _)
     have m8 := mc8 TM.out _ (Gr.refl _)
     have m9 := mc9 TM.out _ (Gr.refl _)
     have m10 := mc10 TM.out _ (Gr.refl _)
     try dsimp only at m0 m1 m2 m3 m4 m5 m6 m7 m8 m9 m10
     cases tr
     ·go_wp2_with fail
      try rw [Exit.noGoto_ret]
      go_ret
      exact ⟨_, rfl, G.out, by rw [HR.out, HRF.out]; rw [HTR.out]; rfl⟩
     ·go_wp2_with fail
      clear m0 m1 m2 m3 m4 m5 m6 m7 m8 m9 m10
      clear x0 x1 x2
      refine (ref_crosses w4 _ M k xf xt it HM.out HF.out HIT.out (.inr HOK.out.2.1.1)).mono ?_
      rintro _ w5 ⟨_, rfl, g5, rfl⟩
      have G := Lib.hid (G.out.trans g5)
      have TM := Lib.hid (TM.out.grow g5)
      have TX := Lib.hid (TX.out.grow g5)
      have TI := Lib.hid (TI.out.grow g5)
      have HM := Lib.hid (HM.out.grow g5)
      clear g5
      obtain ⟨tx, htx⟩ : ∃ t, crossM M xf xt it = t := ⟨_, rfl⟩
      rw [htx]
      have HTX := Lib.hid htx
      clear htx
      have x0 := TX.out.at 0 rfl
      have x1 := TX.out.at 1 rfl
      have x2 := TX.out.at 2 rfl
      have m0 := mc0 TM.out _ (Gr.refl _)
      have m1 := mc1 TM.out _ (Gr.refl _)
      have m2 := mc2 TM.out _ (Gr.refl _)
      have m3 := mc3 TM.out _ (Gr.refl _)
      have m4 := mc4 TM.out _ (Gr.refl _)
      have m5 := mc5 TM.out _ (Gr.refl _)
      have m6 := mc6 TM.out _ (Gr.refl _)
      have m7 := mc7 TM.out _ (Gr.refl _)
      have m8 := mc8 TM.out _ (Gr.refl _)
      have m9 := mc9 TM.out _ (Gr.refl _)
      have m10 := mc10 TM.out _ (Gr.refl _)
      try dsimp only at m0 m1 m2 m3 m4 m5 m6 m7 m8 m9 m10
      cases tx
      ·go_wp2_with fail
       try rw [Exit.noGoto_ret]
       go_ret
       exact ⟨_, rfl, G.out, by rw [HR.out, HRF.out]; rw [HTR.out, HTX.out]; rfl⟩
      ·go_wp2_with fail
       clear m0 m1 m2 m3 m4 m5 m6 m7 m8 m9 m10
       clear x0 x1 x2
       refine (ref_link w5 _ M k xf xt it HM.out HF.out HIT.out (.inr HOK.out.2.1.1)).mono ?_
       rintro _ w6 ⟨_, rfl, g6, rfl⟩
       have G := Lib.hid (G.out.trans g6)
       have TM := Lib.hid (TM.out.grow g6)
       have TX := Lib.hid (TX.out.grow g6)
       have TI := Lib.hid (TI.out.grow g6)
       have HM := Lib.hid (HM.out.grow g6)
       clear g6
       go_wp2_with fail
       try rw [Exit.noGoto_ret]
       go_ret
       exact ⟨_, rfl, G.out, by rw [HR.out, HRF.out]; rw [HTR.out, HTX.out]; rfl⟩
   ·cases t0
    ·cases tf
     ·go_wp2_with fail
      try rw [Exit.noGoto_ret]
      go_ret
      exact ⟨_, rfl, G.out, by rw [HR.out, HRF.out]; skip; rfl⟩
     ·go_wp2_with fail
      clear m0 m1 m2 m3 m4 m5 m6 m7 m8 m9 m10
      clear i0 i1 i2 i3 i4 i5 i6 x0 x1 x2
      refine (ref_free w3 _ M it xt HM.out HF.out HI.out (by omega)).mono ?_
      rintro _ w4 ⟨_, rfl, g4, rfl⟩
      have G := Lib.hid (G.out.trans g4)
      have TM := Lib.hid (TM.out.grow g4)
      have TX := Lib.hid (TX.out.grow g4)
      have TI := Lib.hid (TI.out.grow g4)
      have HM := Lib.hid (HM.out.grow g4)
      clear g4
      obtain ⟨tr, htr⟩ : ∃ t, freeI M it xt = t := ⟨_, rfl⟩
      rw [htr]
      have HTR := Lib.hid htr
      clear htr
      have x0 := TX.out.at 0 rfl
      have x1 := TX.out.at 1 rfl
      have x2 := TX.out.at 2 rfl
      have m0 := mc0 TM.out _ (Gr.refl _)
      have m1 := mc1 TM.out _ (Gr.refl _)
      have m2 := mc2 TM.out _ (Gr.refl _)
      have m3 := mc3 TM.out _ (Gr.refl _)
      have m4 := mc4 TM.out _ (Gr.refl _)
      have m5 := mc5 TM.out _ (Gr.refl _)
      have m6 := mc6 TM.out _ (Gr.refl _)
      have m7 := mc7 TM.out _ (Gr.refl _)
      have m8 := mc8 TM.out _ (Gr.refl _)
      have m9 := mc9 TM.out _ (Gr.refl _)
      have m10 := mc10 TM.out _ (Gr.refl _)
      try dsimp only at m0 m1 m2 m3 m4 m5 m6 m7 m8 m9 m10
      cases tr
      ·go_wp2_with fail
       try rw [Exit.noGoto_ret]
       go_ret
       exact ⟨_, rfl, G.out, by rw [HR.out, HRF.out]; rw [HTR.out]; rfl⟩
      ·go_wp2_with fail
       clear m0 m1 m2 m3 m4 m5 m6 m7 m8 m9 m10
       clear x0 x1 x2
       refine (ref_crosses w4 _ M k xf xt it HM.out HF.out HIT.out (.inr HOK.out.2.1.1)).mono ?_
       rintro _ w5 ⟨_, rfl, g5, rfl⟩
       have G := Lib.hid (G.out.trans g5)
       have TM := Lib.hid (TM.out.grow g5)
       have TX := Lib.hid (TX.out.grow g5)
       have TI := Lib.hid (TI.out.grow g5)
       have HM := Lib.hid (HM.out.grow g5)
       clear g5
       obtain ⟨tx, htx⟩ : ∃ t, crossM M xf xt it = t := ⟨_, rfl⟩
       rw [htx]
       have HTX := Lib.hid htx
       clear htx
       have x0 := TX.out.at 0 rfl
       have x1 := TX.out.at 1 rfl
       have x2 := TX.out.at 2 rfl
       have m0 := mc0 TM.out _ (Gr.refl _)
       have m1 := mc1 TM.out _ (Gr.refl _)
       have m2 := mc2 TM.out _ (Gr.refl _)
       have m3 := mc3 TM.out _ (Gr.refl _)
       have m4 := mc4 TM.out _ (Gr.refl _)
       have m5 := mc5 TM.out _ (Gr.refl _)
       have m6 := mc6 TM.out _ (Gr.refl _)
       have m7 := mc7 TM.out _ (Gr.refl _)
       have m8 := mc8 TM.out _ (Gr.refl _)
       have m9 := mc9 TM.out _ (Gr.refl _)
       have m10 := mc10 TM.out _ (Gr.refl _)
       try dsimp only at m0 m1 m2 m3 m4 m5 m6 m7 m8 m9 m10
       cases tx
       ·go_wp2_with fail
        try rw [Exit.noGoto_ret]
        go_ret
        exact ⟨_, rfl, G.out, by rw [HR.out, HRF.out]; rw [HTR.out, HTX.out]; rfl⟩
       ·go_wp2_with fail
        clear m0 m1 m2 m3 m4 m5 m6 m7 m8 m9 m10
        clear x0 x1 x2
        refine (ref_link w5 _ M k xf xt it HM.out HF.out HIT.out (.inr HOK.out.2.1.1)).mono ?_
        rintro _ w6 ⟨_, rfl, g6, rfl⟩
        have G := Lib.hid (G.out.trans g6)
        have TM := Lib.hid (TM.out.grow g6)
        have TX := Lib.hid (TX.out.grow g6)
        have TI := Lib.hid (TI.out.grow g6)
        have HM := Lib.hid (HM.out.grow g6)
        clear g6
        go_wp2_with fail
        try rw [Exit.noGoto_ret]
        go_ret
        exact ⟨_, rfl, G.out, by rw [HR.out, HRF.out]; rw [HTR.out, HTX.out]; rfl⟩
    ·go_wp2_with fail
     try rw [Exit.noGoto_ret]
     go_ret
     exact ⟨_, rfl, G.out, by rw [HR.out, HRF.out]; skip; rfl⟩
 ·have HR := Lib.hid (show fitsM M ⟨xi, xf, xt⟩ = false from by unfold fitsM; simp only; rw [if_neg k1])
  go_wp2_with fail
  try rw [Exit.noGoto_ret]
  go_ret
  exact ⟨_, rfl, G.out, by rw [HR.out]; rfl⟩
theorem ref_valid (w : World) (P : Ptrs) (M : Mdl) (x : MvM) (hm : MdlAt w P M) (hf : Few M) (hv : MdlOK M) :
  Calls Tryz.prog 57 #[.agg (mcells P M), .agg (moveV x)] w (Ret w fun r _ => r = .bool (fitsM M x)) := ref_valid' w P M x.item x.frm x.to hm hf hv
theorem ref_Valid23 (w : World) (P : Ptrs) (M : Mdl) (x : MvM) (hm : MdlAt w P M) (hf : Few M) :
  Calls Tryz.prog 29 #[.agg (mcells P M), .agg (moveV x)] w (Ret w fun r _ => Tells (MoveOK M x) r) := by
 have HM0 := Lib.hid hm
 have HF := Lib.hid hf
 have B0 := Cells.new w (mcells P M) 29
 have B1 := Cells.new (w.alloc (.cells (mcells P M) 29)) (moveV x) 34
 simp only [World.size_alloc] at B1
 have m0 := mc0 B0.2 _ B1.1
 have m1 := mc1 B0.2 _ B1.1
 have m2 := mc2 B0.2 _ B1.1
 have m3 := mc3 B0.2 _ B1.1
 have m4 := mc4 B0.2 _ B1.1
 have m5 := mc5 B0.2 _ B1.1
 have m6 := mc6 B0.2 _ B1.1
 have m7 := mc7 B0.2 _ B1.1
 have m8 := mc8 B0.2 _ B1.1
 have m9 := mc9 B0.2 _ B1.1
 have m10 := mc10 B0.2 _ B1.1
 have x0 : World.cell? _ ⟨_, 0, none⟩ = some (.int .i64 x.item) := (B1.2).at 0 rfl
 have x1 : World.cell? _ ⟨_, 1, none⟩ = some (.int .i64 x.frm) := (B1.2).at 1 rfl
 have x2 : World.cell? _ ⟨_, 2, none⟩ = some (.int .i64 x.to) := (B1.2).at 2 rfl
 have H := Lib.hid (show _ ∧ _ ∧ _ from ⟨B0.1.trans B1.1, B0.2.grow B1.1, B1.2⟩)
 clear B0 B1 hm hf
 unfold mcells moveV at H m0 m1 m2 m3 m4 m5 m6 m7 m8 m9 m10 x0 x1 x2 ⊢
 go_enter Tryz.func29, Tryz.ntmps29
 go_wp2_with fail
 clear m0 m1 m2 m3 m4 m5 m6 m7 m8 m9 m10 x0 x1 x2
 generalize w.heap.size + 1 = bx at H ⊢
 generalize w.heap.size = bm at H ⊢
 generalize (w.alloc _).alloc _ = W at H ⊢
 have G := Lib.hid (show Gr w W from H.out.1)
 have TM := Lib.hid (show Cells W bm (mcells P M) from H.out.2.1)
 have TX := Lib.hid (show Cells W bx (moveV x) from H.out.2.2)
 have HM := Lib.hid (HM0.out.grow G.out)
 clear H
 refine (ref_Valid15 W P M HM.out HF.out).mono ?_
 rintro _ w1 ⟨r1, rfl, g1, h⟩
 have G := Lib.hid (G.out.trans g1)
 have TM := Lib.hid (TM.out.grow g1)
 have TX := Lib.hid (TX.out.grow g1)
 have HM := Lib.hid (HM.out.grow g1)
 clear g1
 rcases h.cases with ⟨rfl, k1⟩ | ⟨rfl, k1⟩
 ·have HV := Lib.hid k1
  clear h k1
  have m0 := mc0 TM.out _ (Gr.refl _)
  have m1 := mc1 TM.out _ (Gr.refl _)
  have m2 := mc2 TM.out _ (Gr.refl _)
  have m3 := mc3 TM.out _ (Gr.refl _)
  have m4 := mc4 TM.out _ (Gr.refl _)
  have m5 := mc5 TM.out _ (Gr.refl _)
  have m6 := mc6 TM.out _ (Gr.refl _)
  have m7 := mc7 TM.out _ (Gr.refl _)
  have m8 := mc8 TM.out _ (Gr.refl _)
  have m9 := mc9 TM.out _ (Gr.refl _)
  have m10 := mc10 TM.out _ (Gr.refl _)
  have x0 : World.cell? _ ⟨_, 0, none⟩ = some (.int .i64 x.item) := (TX.out).at 0 rfl
  have x1 : World.cell? _ ⟨_, 1, none⟩ = some (.int .i64 x.frm) := (TX.out).at 1 rfl
  have x2 : World.cell? _ ⟨_, 2, none⟩ = some (.int .i64 x.to) := (TX.out).at 2 rfl
  go_wp2_with fail
  clear m0 m1 m2 m3 m4 m5 m6 m7 m8 m9 m10
  refine (ref_valid w1 P M x HM.out HF.out HV.out).mono ?_
  rintro _ w2 ⟨_, rfl, g2, rfl⟩
  have G := Lib.hid (G.out.trans g2)
  obtain ⟨t, ht⟩ : ∃ t, fitsM M x = t := ⟨_, rfl⟩
  rw [ht]
  have HT2 := Lib.hid ht
  clear ht g2
  go_wp2_with fail
  go_ret
  exact ⟨_, rfl, G.out, t, rfl, ⟨fun h => ⟨HV.out, HT2.out.trans h⟩, fun h => HT2.out.symm.trans h.2⟩⟩
 ·have HV := Lib.hid k1
  clear h k1
  go_wp2_with fail
  go_ret
  exact ⟨_, rfl, G.out, Tells.no fun h => HV.out h.1⟩
end Go.Proofs.YtnlocdijdfclcaaGreatDoor

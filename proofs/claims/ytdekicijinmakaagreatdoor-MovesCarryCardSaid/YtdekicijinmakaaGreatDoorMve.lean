/-
  exodusref23.source, crosses, link, valid, Valid.
-/
import Derived.Test.YtdekicijinmakaaGreatDoorMvb
namespace Go.Proofs.YtdekicijinmakaaGreatDoor
open Go.RowKit Go.Lib Lex
set_option linter.unusedVariables false
set_option linter.unusedSimpArgs false

def srcI (frm : Int) (it : ItemM) : Int := if frm ≠ 0 then frm else it.on.headD 0
def crossM (M : Mdl) (xf xt : Int) (it : ItemM) : Bool := decide (0 < it.size) && (placeM M (srcI xf it) != placeM M xt)
theorem ref_source (w : World) (it : ItemM) (xf : Int) (hi : ItemOn w it) (hs : xf ≠ 0 ∨ it.on ≠ []) : Calls Tryz.prog 48 #[.agg (itV it), .int .i64 xf] w (Ret w fun r _ => r = .int .i64 (srcI xf it)) := by
  have B2 := Cells.new w (itV it) 48
  have i0 : World.cell? _ ⟨_, 0, none⟩ = some (.string ⟨it.name.toArray⟩) := (B2.2).at 0 rfl
  have i1 : World.cell? _ ⟨_, 1, none⟩ = some (.int .i64 it.kind) := (B2.2).at 1 rfl
  have i2 : World.cell? _ ⟨_, 2, none⟩ = some (.int .i64 it.count) := (B2.2).at 2 rfl
  have i3 : World.cell? _ ⟨_, 3, none⟩ = some (.int .i64 it.load) := (B2.2).at 3 rfl
  have i4 : World.cell? _ ⟨_, 4, none⟩ = some (.int .i64 it.size) := (B2.2).at 4 rfl
  have i5 : World.cell? _ ⟨_, 5, none⟩ = some (.int .i64 it.share) := (B2.2).at 5 rfl
  have i6 : World.cell? _ ⟨_, 6, none⟩ = some (.slice it.onP it.on.length it.onC) := (B2.2).at 6 rfl
  have G := Lib.hid B2.1
  have HI := Lib.hid (show IntL _ (.slice it.onP it.on.length it.onC) it.on from SlL.grow hi B2.1)
  clear B2 hi
  unfold itV at *
  generalize it.onP = pp at *
  by_cases h0 : xf = 0
  · have hne := hs.resolve_left (fun h => h h0)
    have hpos : 0 < it.on.length := List.length_pos_iff.2 hne
    have hpos' : (0 : Int) < (it.on.length : Int) := by omega
    obtain ⟨b, o, y, rfl, hy, hc⟩ := int_at HI.out rfl hpos
    have c0 := hc _ (Gr.refl _)
    rw [Nat.add_zero] at c0
    have HR := Lib.hid (show srcI xf it = y from by
      unfold srcI
      rw [if_neg (by simpa using h0)]
      cases hl : it.on with
      | nil => exact absurd hl hne
      | cons z l => rw [hl] at hy; simp at hy; simpa using hy)
    have e0 : (xf != 0) = false := by simpa using h0
    clear hs hc hy hne h0
    go_enter Tryz.func48, Tryz.ntmps48
    go_wp2_with fail
    go_ret
    exact ⟨_, rfl, G.out, by rw [HR.out]; rfl⟩
  · have e0 : (xf != 0) = true := by simpa using h0
    have HR := Lib.hid (show srcI xf it = xf from by unfold srcI; rw [if_pos h0])
    clear hs
    go_enter Tryz.func48, Tryz.ntmps48
    go_wp2_with fail
    try rw [Exit.noGoto_ret]
    go_ret
    exact ⟨_, rfl, G.out, by rw [HR.out]; rfl⟩
set_option maxRecDepth 100000 in
set_option maxHeartbeats 1600000 in
theorem ref_crosses (w : World) (P : Ptrs) (M : Mdl) (k : Nat) (xf xt : Int) (it : ItemM) (hm : MdlAt w P M) (hf : Few M) (hit : M.items[k]? = some it) (hs : xf ≠ 0 ∨ it.on ≠ []) :
    Calls Tryz.prog 53 #[.agg (mcells P M), .agg #[.int .i64 ((k : Int) + 1), .int .i64 xf, .int .i64 xt]] w (Ret w fun r _ => r = .bool (crossM M xf xt it)) := by
  have HS := Lib.hid hs
  clear hs
  obtain ⟨p0, c0, p1, c1, p2, c2, p3, c3, p4, c4, p5, c5, p6, c6⟩ := P
  have HF := Lib.hid hf
  have HM0 := Lib.hid hm
  have HIT := Lib.hid hit
  have hlt : k < M.items.length := (List.getElem?_eq_some_iff.1 hit).1
  have B0 := Cells.new w (mcells ⟨p0, c0, p1, c1, p2, c2, p3, c3, p4, c4, p5, c5, p6, c6⟩ M) 29
  have B1 := Cells.new (w.alloc (.cells (mcells ⟨p0, c0, p1, c1, p2, c2, p3, c3, p4, c4, p5, c5, p6, c6⟩ M) 29)) #[.int .i64 ((k : Int) + 1), .int .i64 xf, .int .i64 xt] 31
  simp only [World.size_alloc] at B1
  have hfew := HF.out.1
  obtain ⟨b, o, it', hpp, hit', hc⟩ := item_at (hm.grow (B0.1.trans B1.1)).items rfl hlt
  obtain rfl : it = it' := Option.some.inj (hit.symm.trans hit')
  obtain rfl : p5 = some ⟨b, o, none⟩ := hpp
  have m5 := mc5 B0.2 _ B1.1
  have x0 := B1.2.at 0 rfl
  have x1 := B1.2.at 1 rfl
  have x2 := B1.2.at 2 rfl
  have hlt' : (k : Int) < (M.items.length : Int) := by omega
  have hw1 : IntKind.i64.wrap ((k : Int) + 1 - 1) = (k : Int) := by rw [IntKind.wrap_i64]; omega
  obtain ⟨y0, y1, y2, y3, y4, y5, y6⟩ := hc _ (Gr.refl _)
  have B2 := Cells.new ((w.alloc (.cells (mcells ⟨p0, c0, p1, c1, p2, c2, p3, c3, p4, c4, some ⟨b, o, none⟩, c5, p6, c6⟩ M) 29)).alloc (.cells #[.int .i64 ((k : Int) + 1), .int .i64 xf, .int .i64 xt] 31)) (itV it) 48
  simp only [World.size_alloc] at B2
  have HB := Lib.hid (show _ ∧ _ ∧ _ ∧ _ from ⟨(B0.1.trans B1.1).trans B2.1, (B0.2.grow B1.1).grow B2.1, B1.2.grow B2.1, B2.2⟩)
  clear B0 B1 B2 hm hf hc hit hit'
  unfold itV mcells at HB
  unfold mcells at m5 x0 x1 x2 y0 y1 y2 y3 y4 y5 y6 ⊢
  go_enter Tryz.func53, Tryz.ntmps53
  go_wp2_with fail
  clear m5 x0 x1 x2 y0 y1 y2 y3 y4 y5 y6
  generalize w.heap.size + 1 + 1 = bi at HB ⊢
  generalize w.heap.size + 1 = bx at HB ⊢
  generalize w.heap.size = bm at HB ⊢
  generalize ((w.alloc _).alloc _).alloc _ = W at HB ⊢
  have G := Lib.hid (show Gr w W from HB.out.1)
  have HM := Lib.hid (HM0.out.grow G.out)
  have HI := Lib.hid (HM.out.ons it (List.mem_of_getElem? HIT.out))
  have TM := Lib.hid (show Cells W bm (mcells ⟨p0, c0, p1, c1, p2, c2, p3, c3, p4, c4, some ⟨b, o, none⟩, c5, p6, c6⟩ M) from HB.out.2.1)
  have TX := Lib.hid (show Cells W bx (moveV ⟨(k : Int) + 1, xf, xt⟩) from HB.out.2.2.1)
  have TI := Lib.hid (show Cells W bi (itV it) from HB.out.2.2.2)
  clear HB
  have g0 : Gr W W.drew := (Gr.refl _).drew
  have m0 := mc0 TM.out
  have m1 := mc1 TM.out
  have m2 := mc2 TM.out
  have m3 := mc3 TM.out
  have m4 := mc4 TM.out
  have m5 := mc5 TM.out
  have m6 := mc6 TM.out
  have m7 := mc7 TM.out
  have m8 := mc8 TM.out
  have m9 := mc9 TM.out
  have m10 := mc10 TM.out
  try dsimp only at m0 m1 m2 m3 m4 m5 m6 m7 m8 m9 m10
  have x0 : ∀ w', Gr W w' → w'.cell? ⟨bx, 0, none⟩ = some (.int .i64 ((k : Int) + 1)) := TX.out.c 0 rfl
  have x1 : ∀ w', Gr W w' → w'.cell? ⟨bx, 1, none⟩ = some (.int .i64 xf) := TX.out.c 1 rfl
  have x2 : ∀ w', Gr W w' → w'.cell? ⟨bx, 2, none⟩ = some (.int .i64 xt) := TX.out.c 2 rfl
  have i0 : ∀ w', Gr W w' → w'.cell? ⟨bi, 0, none⟩ = some (.string ⟨it.name.toArray⟩) := TI.out.c 0 rfl
  have i1 : ∀ w', Gr W w' → w'.cell? ⟨bi, 1, none⟩ = some (.int .i64 it.kind) := TI.out.c 1 rfl
  have i2 : ∀ w', Gr W w' → w'.cell? ⟨bi, 2, none⟩ = some (.int .i64 it.count) := TI.out.c 2 rfl
  have i3 : ∀ w', Gr W w' → w'.cell? ⟨bi, 3, none⟩ = some (.int .i64 it.load) := TI.out.c 3 rfl
  have i4 : ∀ w', Gr W w' → w'.cell? ⟨bi, 4, none⟩ = some (.int .i64 it.size) := TI.out.c 4 rfl
  have i5 : ∀ w', Gr W w' → w'.cell? ⟨bi, 5, none⟩ = some (.int .i64 it.share) := TI.out.c 5 rfl
  have i6 : ∀ w', Gr W w' → w'.cell? ⟨bi, 6, none⟩ = some (.slice it.onP it.on.length it.onC) := TI.out.c 6 rfl
  obtain ⟨t2, h2⟩ : ∃ t, decide (0 < it.size) = t := ⟨_, rfl⟩
  have H2 := Lib.hid h2
  refine wp_region_fast [(0, true), (1, true), (2, true), (3, true), (4, true), (5, true), (6, true), (7, true), (10, true), (11, true), (12, true), (8, false), (9, false), (13, false), (14, true), (15, true), (16, true)] (by kernel_rfl) (by kernel_rfl) rfl (by kernel_rfl) (fun _ _ d _ _ h => by cases d <;> exact h) ?_
  cases t2
  · repeat (first | (refine wpE_skip rfl rfl ?_; go_simp) | (refine wpE_readB (v := ?_) g0 rfl rfl (fun w' hg => ?_) (fun K hK => ?_); rotate_left; (go_simp; rfl); go_simp; refine hK _ _ ?_; clear hK K))
    refine wpE_nil ?_
    go_wp2_with fail
    go_ret
    exact ⟨_, rfl, G.out.trans g0, by unfold crossM; rw [H2.out]; rfl⟩
  · repeat (first | (refine wpE_skip rfl rfl ?_; go_simp) | (refine wpE_readB (v := ?_) g0 rfl rfl (fun w' hg => ?_) (fun K hK => ?_); rotate_left; (go_simp; rfl); go_simp; refine hK _ _ ?_; clear hK K))
    refine wpE_fn (args := ?_) rfl rfl rfl rfl rfl rfl (by kernel_rfl) (by kernel_rfl) ?_ (fun K hK => ?_)
    rotate_left
    · go_simp; rfl
    refine (ref_source _ it xf (SlL.grow HI.out g0) HS.out).mono ?_
    rintro _ w2 ⟨_, rfl, g2, rfl⟩
    refine ⟨_, rfl, g2, ?_⟩
    go_simp
    refine hK _ _ ?_
    clear hK K
    replace g0 := g0.trans g2
    refine wpE_fn (args := ?_) rfl rfl rfl rfl rfl rfl (by kernel_rfl) (by kernel_rfl) ?_ (fun K hK => ?_)
    rotate_left
    · go_simp; rfl
    refine (ref_Domain4 _ _ M _ (HM.out.grow g0) HF.out).mono ?_
    rintro _ w3 ⟨_, rfl, g3, rfl⟩
    refine ⟨_, rfl, g3, ?_⟩
    go_simp
    refine hK _ _ ?_
    clear hK K
    replace g0 := g0.trans g3
    refine wpE_fn (args := ?_) rfl rfl rfl rfl rfl rfl (by kernel_rfl) (by kernel_rfl) ?_ (fun K hK => ?_)
    rotate_left
    · go_simp; rfl
    refine (ref_Domain4 _ _ M _ (HM.out.grow g0) HF.out).mono ?_
    rintro _ w4 ⟨_, rfl, g4, rfl⟩
    refine ⟨_, rfl, g4, ?_⟩
    go_simp
    refine hK _ _ ?_
    clear hK K
    replace g0 := g0.trans g4
    repeat (first | (refine wpE_skip rfl rfl ?_; go_simp) | (refine wpE_readB (v := ?_) g0 rfl rfl (fun w' hg => ?_) (fun K hK => ?_); rotate_left; (go_simp; rfl); go_simp; refine hK _ _ ?_; clear hK K))
    refine wpE_nil ?_
    go_wp2_with fail
    go_ret
    exact ⟨_, rfl, G.out.trans g0, by unfold crossM; rw [H2.out]; rfl⟩
set_option maxRecDepth 100000 in
set_option maxHeartbeats 1600000 in
theorem ref_link (w : World) (P : Ptrs) (M : Mdl) (k : Nat) (xf xt : Int) (it : ItemM) (hm : MdlAt w P M) (hf : Few M) (hit : M.items[k]? = some it) (hs : xf ≠ 0 ∨ it.on ≠ []) :
    Calls Tryz.prog 54 #[.agg (mcells P M), .agg #[.int .i64 ((k : Int) + 1), .int .i64 xf, .int .i64 xt]] w (Ret w fun r _ => r = .int .i64 (linkM M (placeM M (srcI xf it)) (placeM M xt))) := by
  have HS := Lib.hid hs
  clear hs
  obtain ⟨p0, c0, p1, c1, p2, c2, p3, c3, p4, c4, p5, c5, p6, c6⟩ := P
  have HF := Lib.hid hf
  have HM0 := Lib.hid hm
  have HIT := Lib.hid hit
  have hlt : k < M.items.length := (List.getElem?_eq_some_iff.1 hit).1
  have B0 := Cells.new w (mcells ⟨p0, c0, p1, c1, p2, c2, p3, c3, p4, c4, p5, c5, p6, c6⟩ M) 29
  have B1 := Cells.new (w.alloc (.cells (mcells ⟨p0, c0, p1, c1, p2, c2, p3, c3, p4, c4, p5, c5, p6, c6⟩ M) 29)) #[.int .i64 ((k : Int) + 1), .int .i64 xf, .int .i64 xt] 31
  simp only [World.size_alloc] at B1
  have hfew := HF.out.1
  obtain ⟨b, o, it', hpp, hit', hc⟩ := item_at (hm.grow (B0.1.trans B1.1)).items rfl hlt
  obtain rfl : it = it' := Option.some.inj (hit.symm.trans hit')
  obtain rfl : p5 = some ⟨b, o, none⟩ := hpp
  have m5 := mc5 B0.2 _ B1.1
  have x0 := B1.2.at 0 rfl
  have x1 := B1.2.at 1 rfl
  have x2 := B1.2.at 2 rfl
  have hlt' : (k : Int) < (M.items.length : Int) := by omega
  have hw1 : IntKind.i64.wrap ((k : Int) + 1 - 1) = (k : Int) := by rw [IntKind.wrap_i64]; omega
  obtain ⟨y0, y1, y2, y3, y4, y5, y6⟩ := hc _ (Gr.refl _)
  have B2 := Cells.new ((w.alloc (.cells (mcells ⟨p0, c0, p1, c1, p2, c2, p3, c3, p4, c4, some ⟨b, o, none⟩, c5, p6, c6⟩ M) 29)).alloc (.cells #[.int .i64 ((k : Int) + 1), .int .i64 xf, .int .i64 xt] 31)) (itV it) 48
  simp only [World.size_alloc] at B2
  have HB := Lib.hid (show _ ∧ _ ∧ _ ∧ _ from ⟨(B0.1.trans B1.1).trans B2.1, (B0.2.grow B1.1).grow B2.1, B1.2.grow B2.1, B2.2⟩)
  clear B0 B1 B2 hm hf hc hit hit'
  unfold itV mcells at HB
  unfold mcells at m5 x0 x1 x2 y0 y1 y2 y3 y4 y5 y6 ⊢
  go_enter Tryz.func54, Tryz.ntmps54
  go_wp2_with fail
  clear m5 x0 x1 x2 y0 y1 y2 y3 y4 y5 y6
  generalize w.heap.size + 1 + 1 = bi at HB ⊢
  generalize w.heap.size + 1 = bx at HB ⊢
  generalize w.heap.size = bm at HB ⊢
  generalize ((w.alloc _).alloc _).alloc _ = W at HB ⊢
  have G := Lib.hid (show Gr w W from HB.out.1)
  have HM := Lib.hid (HM0.out.grow G.out)
  have HI := Lib.hid (HM.out.ons it (List.mem_of_getElem? HIT.out))
  have TM := Lib.hid (show Cells W bm (mcells ⟨p0, c0, p1, c1, p2, c2, p3, c3, p4, c4, some ⟨b, o, none⟩, c5, p6, c6⟩ M) from HB.out.2.1)
  have TX := Lib.hid (show Cells W bx (moveV ⟨(k : Int) + 1, xf, xt⟩) from HB.out.2.2.1)
  have TI := Lib.hid (show Cells W bi (itV it) from HB.out.2.2.2)
  clear HB
  have g0 : Gr W W.drew := (Gr.refl _).drew
  have m0 := mc0 TM.out
  have m1 := mc1 TM.out
  have m2 := mc2 TM.out
  have m3 := mc3 TM.out
  have m4 := mc4 TM.out
  have m5 := mc5 TM.out
  have m6 := mc6 TM.out
  have m7 := mc7 TM.out
  have m8 := mc8 TM.out
  have m9 := mc9 TM.out
  have m10 := mc10 TM.out
  try dsimp only at m0 m1 m2 m3 m4 m5 m6 m7 m8 m9 m10
  have x0 : ∀ w', Gr W w' → w'.cell? ⟨bx, 0, none⟩ = some (.int .i64 ((k : Int) + 1)) := TX.out.c 0 rfl
  have x1 : ∀ w', Gr W w' → w'.cell? ⟨bx, 1, none⟩ = some (.int .i64 xf) := TX.out.c 1 rfl
  have x2 : ∀ w', Gr W w' → w'.cell? ⟨bx, 2, none⟩ = some (.int .i64 xt) := TX.out.c 2 rfl
  have i0 : ∀ w', Gr W w' → w'.cell? ⟨bi, 0, none⟩ = some (.string ⟨it.name.toArray⟩) := TI.out.c 0 rfl
  have i1 : ∀ w', Gr W w' → w'.cell? ⟨bi, 1, none⟩ = some (.int .i64 it.kind) := TI.out.c 1 rfl
  have i2 : ∀ w', Gr W w' → w'.cell? ⟨bi, 2, none⟩ = some (.int .i64 it.count) := TI.out.c 2 rfl
  have i3 : ∀ w', Gr W w' → w'.cell? ⟨bi, 3, none⟩ = some (.int .i64 it.load) := TI.out.c 3 rfl
  have i4 : ∀ w', Gr W w' → w'.cell? ⟨bi, 4, none⟩ = some (.int .i64 it.size) := TI.out.c 4 rfl
  have i5 : ∀ w', Gr W w' → w'.cell? ⟨bi, 5, none⟩ = some (.int .i64 it.share) := TI.out.c 5 rfl
  have i6 : ∀ w', Gr W w' → w'.cell? ⟨bi, 6, none⟩ = some (.slice it.onP it.on.length it.onC) := TI.out.c 6 rfl
  refine wp_region_fast [(0, true), (1, true), (2, true), (3, true), (4, true), (7, true), (8, true), (9, true), (5, false), (6, false), (10, false), (11, false), (12, true)] (by kernel_rfl) (by kernel_rfl) rfl (by kernel_rfl) (fun _ _ d _ _ h => by cases d <;> exact h) ?_
  repeat (first | (refine wpE_skip rfl rfl ?_; go_simp) | (refine wpE_readB (v := ?_) g0 rfl rfl (fun w' hg => ?_) (fun K hK => ?_); rotate_left; (go_simp; rfl); go_simp; refine hK _ _ ?_; clear hK K))
  refine wpE_fn (args := ?_) rfl rfl rfl rfl rfl rfl (by kernel_rfl) (by kernel_rfl) ?_ (fun K hK => ?_)
  rotate_left
  · go_simp; rfl
  refine (ref_source _ it xf (SlL.grow HI.out g0) HS.out).mono ?_
  rintro _ w2 ⟨_, rfl, g2, rfl⟩
  refine ⟨_, rfl, g2, ?_⟩
  go_simp
  refine hK _ _ ?_
  clear hK K
  replace g0 := g0.trans g2
  refine wpE_fn (args := ?_) rfl rfl rfl rfl rfl rfl (by kernel_rfl) (by kernel_rfl) ?_ (fun K hK => ?_)
  rotate_left
  · go_simp; rfl
  refine (ref_Domain4 _ _ M _ (HM.out.grow g0) HF.out).mono ?_
  rintro _ w3 ⟨_, rfl, g3, rfl⟩
  refine ⟨_, rfl, g3, ?_⟩
  go_simp
  refine hK _ _ ?_
  clear hK K
  replace g0 := g0.trans g3
  refine wpE_fn (args := ?_) rfl rfl rfl rfl rfl rfl (by kernel_rfl) (by kernel_rfl) ?_ (fun K hK => ?_)
  rotate_left
  · go_simp; rfl
  refine (ref_Domain4 _ _ M _ (HM.out.grow g0) HF.out).mono ?_
  rintro _ w4 ⟨_, rfl, g4, rfl⟩
  refine ⟨_, rfl, g4, ?_⟩
  go_simp
  refine hK _ _ ?_
  clear hK K
  replace g0 := g0.trans g4
  refine wpE_fn (args := ?_) rfl rfl rfl rfl rfl rfl (by kernel_rfl) (by kernel_rfl) ?_ (fun K hK => ?_)
  rotate_left
  · go_simp; rfl
  refine (ref_Link _ _ M _ _ (HM.out.grow g0) HF.out).mono ?_
  rintro _ w5 ⟨_, rfl, g5, rfl⟩
  refine ⟨_, rfl, g5, ?_⟩
  go_simp
  refine hK _ _ ?_
  clear hK K
  replace g0 := g0.trans g5
  repeat (first | (refine wpE_skip rfl rfl ?_; go_simp) | (refine wpE_readB (v := ?_) g0 rfl rfl (fun w' hg => ?_) (fun K hK => ?_); rotate_left; (go_simp; rfl); go_simp; refine hK _ _ ?_; clear hK K))
  refine wpE_nil ?_
  go_wp2_with fail
  go_ret
  exact ⟨_, rfl, G.out.trans g0, rfl⟩
def refFits (M : Mdl) (xf xt : Int) (it : ItemM) : Bool :=
  ((it.kind == 1) && it.on.contains xf && (xt == 0)) || ((if it.kind = 1 then (xf == 0) else it.on.contains xf) && freeI M it xt && (!crossM M xf xt it || (linkM M (placeM M (srcI xf it)) (placeM M xt) != 0)))
theorem refFits_eq (M : Mdl) (i xf xt : Int) (it : ItemM) : refFits M xf xt it = fitsI M ⟨i, xf, xt⟩ it := by
  unfold refFits fitsI shapeB apartM linkOf crossM srcM srcI
  simp only
  have hl := linkM_ge M (placeM M (if xf ≠ 0 then xf else it.on.headD 0)) (placeM M xt)
  generalize linkM M (placeM M (if xf ≠ 0 then xf else it.on.headD 0)) (placeM M xt) = L at *
  have hln : (L != 0) = decide (0 < L) := by
    rw [Bool.eq_iff_iff]; simp; omega
  rw [hln]
  generalize (placeM M (if xf ≠ 0 then xf else it.on.headD 0) != placeM M xt) = D
  have hfr : xt = 0 → freeI M it xt = false := fun h => by unfold freeI; simp [h]
  by_cases h0 : xt = 0
  · rw [hfr h0]
    simp only [h0]
    by_cases hk : it.kind = 1
    · simp [hk]
    · simp [hk]
  · have e0 : (xt == 0) = false := by simpa using h0
    have e1 : (xt != 0) = true := by simpa using h0
    rw [e0, e1]
    by_cases hk : it.kind = 1
    · simp [hk]
    · simp [hk]
set_option maxRecDepth 100000 in
set_option maxHeartbeats 1600000 in
theorem ref_valid' (w : World) (P : Ptrs) (M : Mdl) (xi xf xt : Int) (hm : MdlAt w P M) (hf : Few M) (hv : MdlOK M) :
    Calls Tryz.prog 44 #[.agg (mcells P M), .agg #[.int .i64 xi, .int .i64 xf, .int .i64 xt]] w (Ret w fun r _ => r = .bool (fitsM M ⟨xi, xf, xt⟩)) := by
  obtain ⟨p0, c0, p1, c1, p2, c2, p3, c3, p4, c4, p5, c5, p6, c6⟩ := P
  have HF := Lib.hid hf
  have HV := Lib.hid hv
  have HM0 := Lib.hid hm
  have B0 := Cells.new w (mcells ⟨p0, c0, p1, c1, p2, c2, p3, c3, p4, c4, p5, c5, p6, c6⟩ M) 29
  have B1 := Cells.new (w.alloc (.cells (mcells ⟨p0, c0, p1, c1, p2, c2, p3, c3, p4, c4, p5, c5, p6, c6⟩ M) 29)) #[.int .i64 xi, .int .i64 xf, .int .i64 xt] 31
  simp only [World.size_alloc] at B1
  have m5 := mc5 B0.2 _ B1.1
  have x0 := B1.2.at 0 rfl
  have H1 := Lib.hid (show _ ∧ _ ∧ _ from ⟨B0.1.trans B1.1, B0.2.grow B1.1, B1.2⟩)
  clear B0 B1 hm hf hv
  unfold mcells at H1 m5 x0 ⊢
  go_enter Tryz.func44, Tryz.ntmps44
  go_wp2_with fail
  clear m5 x0
  generalize w.heap.size + 1 = bx at H1 ⊢
  generalize w.heap.size = bm at H1 ⊢
  generalize (w.alloc _).alloc _ = W at H1 ⊢
  have G := Lib.hid (show Gr w W from H1.out.1)
  have TM := Lib.hid (show Cells W bm (mcells ⟨p0, c0, p1, c1, p2, c2, p3, c3, p4, c4, p5, c5, p6, c6⟩ M) from H1.out.2.1)
  have TX := Lib.hid (show Cells W bx #[.int .i64 xi, .int .i64 xf, .int .i64 xt] from H1.out.2.2)
  clear H1
  refine (ref_Exists _ _ _).mono ?_
  rintro _ _ ⟨⟨r1, rfl, h1⟩, rfl⟩
  rcases h1.cases with ⟨rfl, k1⟩ | ⟨rfl, k1⟩
  · obtain ⟨k, rfl⟩ : ∃ k : Nat, xi = (k : Int) + 1 := ⟨(xi - 1).toNat, by omega⟩
    have HM := Lib.hid (HM0.out.grow G.out)
    have hlt : k < M.items.length := by omega
    have hfew := HF.out.1
    obtain ⟨b, o, it, hpp, hit, hc⟩ := item_at HM.out.items rfl hlt
    obtain rfl : p5 = some ⟨b, o, none⟩ := hpp
    have hlt' : (k : Int) < (M.items.length : Int) := by omega
    have hw1 : IntKind.i64.wrap ((k : Int) + 1 - 1) = (k : Int) := by rw [IntKind.wrap_i64]; omega
    obtain ⟨y0, y1, y2, y3, y4, y5, y6⟩ := hc _ (Gr.refl _)
    have hmem := List.mem_of_getElem? hit
    have HIT := Lib.hid hit
    have HOK := Lib.hid (HV.out.2.2.2.2.1 it hmem)
    have hol := (HF.out.2.2.2.2.2.1 it hmem).2
    have HR := Lib.hid (show fitsM M ⟨(k : Int) + 1, xf, xt⟩ = refFits M xf xt it from by
      rw [refFits_eq M ((k : Int) + 1)]
      unfold fitsM
      simp only
      rw [if_pos k1, show ((k : Int) + 1 - 1).toNat = k by omega, hit])
    have B2 := Cells.new W (itV it) 48
    have m5 := mc5 TM.out _ (Gr.refl _)
    have x0 := TX.out.at 0 rfl
    have x1 := (TX.out.grow B2.1).at 1 rfl
    have i6 : World.cell? _ ⟨_, 6, none⟩ = some (.slice it.onP it.on.length it.onC) := B2.2.at 6 rfl
    have HMEM := Lib.hid hmem
    have HB := Lib.hid B2
    clear h1 k1 hit hc hmem B2
    unfold itV at HB x1 i6
    go_wp2_with fail
    clear m5 x0 x1 i6 y0 y1 y2 y3 y4 y5 y6
    generalize W.heap.size = bi at HB ⊢
    generalize W.alloc _ = W2 at HB ⊢
    have g2 := HB.out.1
    have TI := Lib.hid (show Cells W2 bi (itV it) from HB.out.2)
    have G := Lib.hid (G.out.trans g2)
    have TM := Lib.hid (TM.out.grow g2)
    have TX := Lib.hid (TX.out.grow g2)
    have HM := Lib.hid (HM0.out.grow G.out)
    have HI := Lib.hid (HM.out.ons it HMEM.out)
    clear HB g2
    refine (ref_HasInt W2 it.onP it.onC it.on xf HI.out (by omega)).mono ?_
    rintro _ w3 ⟨_, rfl, g3, rfl⟩
    have G := Lib.hid (G.out.trans g3)
    have TM := Lib.hid (TM.out.grow g3)
    have TX := Lib.hid (TX.out.grow g3)
    have TI := Lib.hid (TI.out.grow g3)
    have HM := Lib.hid (HM.out.grow g3)
    clear g3
    have HI := Lib.hid (HM.out.ons it HMEM.out)
    obtain ⟨tc, htc⟩ : ∃ t, it.on.contains xf = t := ⟨_, rfl⟩
    rw [htc]
    have HTC := Lib.hid htc
    clear htc
    obtain ⟨tk, htk⟩ : ∃ t, (it.kind == 1) = t := ⟨_, rfl⟩
    obtain ⟨t0, ht0⟩ : ∃ t, (xt == 0) = t := ⟨_, rfl⟩
    obtain ⟨tf, htf⟩ : ∃ t, (xf == 0) = t := ⟨_, rfl⟩
    have HTK := Lib.hid htk
    have HT0 := Lib.hid ht0
    have HTF := Lib.hid htf
    have i1 : World.cell? w3 ⟨bi, 1, none⟩ = some (.int .i64 it.kind) := TI.out.at 1 rfl
    have x1 := TX.out.at 1 rfl
    have x2 := TX.out.at 2 rfl
    have m0 := mc0 TM.out _ (Gr.refl _)
    have m1 := mc1 TM.out _ (Gr.refl _)
    have m2 := mc2 TM.out _ (Gr.refl _)
    have m3 := mc3 TM.out _ (Gr.refl _)
    have m4 := mc4 TM.out _ (Gr.refl _)
    have m5 := mc5 TM.out _ (Gr.refl _)
    have m6 := mc6 TM.out _ (Gr.refl _)
    have m7 := mc7 TM.out _ (Gr.refl _)
    have m8 := mc8 TM.out _ (Gr.refl _)
    have m9 := mc9 TM.out _ (Gr.refl _)
    have m10 := mc10 TM.out _ (Gr.refl _)
    try dsimp only at m0 m1 m2 m3 m4 m5 m6 m7 m8 m9 m10
    clear i1
    have i0 : World.cell? w3 ⟨_, 0, none⟩ = some (.string ⟨it.name.toArray⟩) := (TI.out).at 0 rfl
    have i1 : World.cell? w3 ⟨_, 1, none⟩ = some (.int .i64 it.kind) := (TI.out).at 1 rfl
    have i2 : World.cell? w3 ⟨_, 2, none⟩ = some (.int .i64 it.count) := (TI.out).at 2 rfl
    have i3 : World.cell? w3 ⟨_, 3, none⟩ = some (.int .i64 it.load) := (TI.out).at 3 rfl
    have i4 : World.cell? w3 ⟨_, 4, none⟩ = some (.int .i64 it.size) := (TI.out).at 4 rfl
    have i5 : World.cell? w3 ⟨_, 5, none⟩ = some (.int .i64 it.share) := (TI.out).at 5 rfl
    have i6 : World.cell? w3 ⟨_, 6, none⟩ = some (.slice it.onP it.on.length it.onC) := (TI.out).at 6 rfl
    have x0 := TX.out.at 0 rfl
    have HRF := Lib.hid (show refFits M xf xt it = ((tk && tc && t0) || ((if tk = true then tf else tc) && freeI M it xt && (!crossM M xf xt it || (linkM M (placeM M (srcI xf it)) (placeM M xt) != 0)))) from by
      unfold refFits
      rw [htk, HTC.out, ht0, htf]
      cases tk
      · rw [if_neg (show ¬ it.kind = 1 by simpa using htk)]; rfl
      · rw [if_pos (show it.kind = 1 by simpa using htk)]; rfl)
    cases tk
    · cases tc
      · go_wp2_with fail
        try rw [Exit.noGoto_ret]
        go_ret
        exact ⟨_, rfl, G.out, by rw [HR.out, HRF.out]; skip; rfl⟩
      · go_wp2_with fail
        clear m0 m1 m2 m3 m4 m5 m6 m7 m8 m9 m10
        clear i0 i1 i2 i3 i4 i5 i6 x0 x1 x2
        refine (ref_free w3 _ M it xt HM.out HF.out HI.out (by omega)).mono ?_
        rintro _ w4 ⟨_, rfl, g4, rfl⟩
        have G := Lib.hid (G.out.trans g4)
        have TM := Lib.hid (TM.out.grow g4)
        have TX := Lib.hid (TX.out.grow g4)
        have TI := Lib.hid (TI.out.grow g4)
        have HM := Lib.hid (HM.out.grow g4)
        clear g4
        obtain ⟨tr, htr⟩ : ∃ t, freeI M it xt = t := ⟨_, rfl⟩
        rw [htr]
        have HTR := Lib.hid htr
        clear htr
        have x0 := TX.out.at 0 rfl
        have x1 := TX.out.at 1 rfl
        have x2 := TX.out.at 2 rfl
        have m0 := mc0 TM.out _ (Gr.refl _)
        have m1 := mc1 TM.out _ (Gr.refl _)
        have m2 := mc2 TM.out _ (Gr.refl _)
        have m3 := mc3 TM.out _ (Gr.refl _)
        have m4 := mc4 TM.out _ (Gr.refl _)
        have m5 := mc5 TM.out _ (Gr.refl _)
        have m6 := mc6 TM.out _ (Gr.refl _)
        have m7 := mc7 TM.out _ (Gr.refl _)
        have m8 := mc8 TM.out _ (Gr.refl _)
        have m9 := mc9 TM.out _ (Gr.refl _)
        have m10 := mc10 TM.out _ (Gr.refl _)
        try dsimp only at m0 m1 m2 m3 m4 m5 m6 m7 m8 m9 m10
        cases tr
        · go_wp2_with fail
          try rw [Exit.noGoto_ret]
          go_ret
          exact ⟨_, rfl, G.out, by rw [HR.out, HRF.out]; rw [HTR.out]; rfl⟩
        · go_wp2_with fail
          clear m0 m1 m2 m3 m4 m5 m6 m7 m8 m9 m10
          clear x0 x1 x2
          refine (ref_crosses w4 _ M k xf xt it HM.out HF.out HIT.out (.inr HOK.out.2.1.1)).mono ?_
          rintro _ w5 ⟨_, rfl, g5, rfl⟩
          have G := Lib.hid (G.out.trans g5)
          have TM := Lib.hid (TM.out.grow g5)
          have TX := Lib.hid (TX.out.grow g5)
          have TI := Lib.hid (TI.out.grow g5)
          have HM := Lib.hid (HM.out.grow g5)
          clear g5
          obtain ⟨tx, htx⟩ : ∃ t, crossM M xf xt it = t := ⟨_, rfl⟩
          rw [htx]
          have HTX := Lib.hid htx
          clear htx
          have x0 := TX.out.at 0 rfl
          have x1 := TX.out.at 1 rfl
          have x2 := TX.out.at 2 rfl
          have m0 := mc0 TM.out _ (Gr.refl _)
          have m1 := mc1 TM.out _ (Gr.refl _)
          have m2 := mc2 TM.out _ (Gr.refl _)
          have m3 := mc3 TM.out _ (Gr.refl _)
          have m4 := mc4 TM.out _ (Gr.refl _)
          have m5 := mc5 TM.out _ (Gr.refl _)
          have m6 := mc6 TM.out _ (Gr.refl _)
          have m7 := mc7 TM.out _ (Gr.refl _)
          have m8 := mc8 TM.out _ (Gr.refl _)
          have m9 := mc9 TM.out _ (Gr.refl _)
          have m10 := mc10 TM.out _ (Gr.refl _)
          try dsimp only at m0 m1 m2 m3 m4 m5 m6 m7 m8 m9 m10
          cases tx
          · go_wp2_with fail
            try rw [Exit.noGoto_ret]
            go_ret
            exact ⟨_, rfl, G.out, by rw [HR.out, HRF.out]; rw [HTR.out, HTX.out]; rfl⟩
          · go_wp2_with fail
            clear m0 m1 m2 m3 m4 m5 m6 m7 m8 m9 m10
            clear x0 x1 x2
            refine (ref_link w5 _ M k xf xt it HM.out HF.out HIT.out (.inr HOK.out.2.1.1)).mono ?_
            rintro _ w6 ⟨_, rfl, g6, rfl⟩
            have G := Lib.hid (G.out.trans g6)
            have TM := Lib.hid (TM.out.grow g6)
            have TX := Lib.hid (TX.out.grow g6)
            have TI := Lib.hid (TI.out.grow g6)
            have HM := Lib.hid (HM.out.grow g6)
            clear g6
            go_wp2_with fail
            try rw [Exit.noGoto_ret]
            go_ret
            exact ⟨_, rfl, G.out, by rw [HR.out, HRF.out]; rw [HTR.out, HTX.out]; rfl⟩
    · cases tc
      · cases tf
        · go_wp2_with fail
          try rw [Exit.noGoto_ret]
          go_ret
          exact ⟨_, rfl, G.out, by rw [HR.out, HRF.out]; skip; rfl⟩
        · go_wp2_with fail
          clear m0 m1 m2 m3 m4 m5 m6 m7 m8 m9 m10
          clear i0 i1 i2 i3 i4 i5 i6 x0 x1 x2
          refine (ref_free w3 _ M it xt HM.out HF.out HI.out (by omega)).mono ?_
          rintro _ w4 ⟨_, rfl, g4, rfl⟩
          have G := Lib.hid (G.out.trans g4)
          have TM := Lib.hid (TM.out.grow g4)
          have TX := Lib.hid (TX.out.grow g4)
          have TI := Lib.hid (TI.out.grow g4)
          have HM := Lib.hid (HM.out.grow g4)
          clear g4
          obtain ⟨tr, htr⟩ : ∃ t, freeI M it xt = t := ⟨_, rfl⟩
          rw [htr]
          have HTR := Lib.hid htr
          clear htr
          have x0 := TX.out.at 0 rfl
          have x1 := TX.out.at 1 rfl
          have x2 := TX.out.at 2 rfl
          have m0 := mc0 TM.out _ (Gr.refl _)
          have m1 := mc1 TM.out _ (Gr.refl _)
          have m2 := mc2 TM.out _ (Gr.refl _)
          have m3 := mc3 TM.out _ (Gr.refl _)
          have m4 := mc4 TM.out _ (Gr.refl _)
          have m5 := mc5 TM.out _ (Gr.refl _)
          have m6 := mc6 TM.out _ (Gr.refl _)
          have m7 := mc7 TM.out _ (Gr.refl _)
          have m8 := mc8 TM.out _ (Gr.refl _)
          have m9 := mc9 TM.out _ (Gr.refl _)
          have m10 := mc10 TM.out _ (Gr.refl _)
          try dsimp only at m0 m1 m2 m3 m4 m5 m6 m7 m8 m9 m10
          cases tr
          · go_wp2_with fail
            try rw [Exit.noGoto_ret]
            go_ret
            exact ⟨_, rfl, G.out, by rw [HR.out, HRF.out]; rw [HTR.out]; rfl⟩
          · go_wp2_with fail
            clear m0 m1 m2 m3 m4 m5 m6 m7 m8 m9 m10
            clear x0 x1 x2
            refine (ref_crosses w4 _ M k xf xt it HM.out HF.out HIT.out (.inr HOK.out.2.1.1)).mono ?_
            rintro _ w5 ⟨_, rfl, g5, rfl⟩
            have G := Lib.hid (G.out.trans g5)
            have TM := Lib.hid (TM.out.grow g5)
            have TX := Lib.hid (TX.out.grow g5)
            have TI := Lib.hid (TI.out.grow g5)
            have HM := Lib.hid (HM.out.grow g5)
            clear g5
            obtain ⟨tx, htx⟩ : ∃ t, crossM M xf xt it = t := ⟨_, rfl⟩
            rw [htx]
            have HTX := Lib.hid htx
            clear htx
            have x0 := TX.out.at 0 rfl
            have x1 := TX.out.at 1 rfl
            have x2 := TX.out.at 2 rfl
            have m0 := mc0 TM.out _ (Gr.refl _)
            have m1 := mc1 TM.out _ (Gr.refl _)
            have m2 := mc2 TM.out _ (Gr.refl _)
            have m3 := mc3 TM.out _ (Gr.refl _)
            have m4 := mc4 TM.out _ (Gr.refl _)
            have m5 := mc5 TM.out _ (Gr.refl _)
            have m6 := mc6 TM.out _ (Gr.refl _)
            have m7 := mc7 TM.out _ (Gr.refl _)
            have m8 := mc8 TM.out _ (Gr.refl _)
            have m9 := mc9 TM.out _ (Gr.refl _)
            have m10 := mc10 TM.out _ (Gr.refl _)
            try dsimp only at m0 m1 m2 m3 m4 m5 m6 m7 m8 m9 m10
            cases tx
            · go_wp2_with fail
              try rw [Exit.noGoto_ret]
              go_ret
              exact ⟨_, rfl, G.out, by rw [HR.out, HRF.out]; rw [HTR.out, HTX.out]; rfl⟩
            · go_wp2_with fail
              clear m0 m1 m2 m3 m4 m5 m6 m7 m8 m9 m10
              clear x0 x1 x2
              refine (ref_link w5 _ M k xf xt it HM.out HF.out HIT.out (.inr HOK.out.2.1.1)).mono ?_
              rintro _ w6 ⟨_, rfl, g6, rfl⟩
              have G := Lib.hid (G.out.trans g6)
              have TM := Lib.hid (TM.out.grow g6)
              have TX := Lib.hid (TX.out.grow g6)
              have TI := Lib.hid (TI.out.grow g6)
              have HM := Lib.hid (HM.out.grow g6)
              clear g6
              go_wp2_with fail
              try rw [Exit.noGoto_ret]
              go_ret
              exact ⟨_, rfl, G.out, by rw [HR.out, HRF.out]; rw [HTR.out, HTX.out]; rfl⟩
      · cases t0
        · cases tf
          · go_wp2_with fail
            try rw [Exit.noGoto_ret]
            go_ret
            exact ⟨_, rfl, G.out, by rw [HR.out, HRF.out]; skip; rfl⟩
          · go_wp2_with fail
            clear m0 m1 m2 m3 m4 m5 m6 m7 m8 m9 m10
            clear i0 i1 i2 i3 i4 i5 i6 x0 x1 x2
            refine (ref_free w3 _ M it xt HM.out HF.out HI.out (by omega)).mono ?_
            rintro _ w4 ⟨_, rfl, g4, rfl⟩
            have G := Lib.hid (G.out.trans g4)
            have TM := Lib.hid (TM.out.grow g4)
            have TX := Lib.hid (TX.out.grow g4)
            have TI := Lib.hid (TI.out.grow g4)
            have HM := Lib.hid (HM.out.grow g4)
            clear g4
            obtain ⟨tr, htr⟩ : ∃ t, freeI M it xt = t := ⟨_, rfl⟩
            rw [htr]
            have HTR := Lib.hid htr
            clear htr
            have x0 := TX.out.at 0 rfl
            have x1 := TX.out.at 1 rfl
            have x2 := TX.out.at 2 rfl
            have m0 := mc0 TM.out _ (Gr.refl _)
            have m1 := mc1 TM.out _ (Gr.refl _)
            have m2 := mc2 TM.out _ (Gr.refl _)
            have m3 := mc3 TM.out _ (Gr.refl _)
            have m4 := mc4 TM.out _ (Gr.refl _)
            have m5 := mc5 TM.out _ (Gr.refl _)
            have m6 := mc6 TM.out _ (Gr.refl _)
            have m7 := mc7 TM.out _ (Gr.refl _)
            have m8 := mc8 TM.out _ (Gr.refl _)
            have m9 := mc9 TM.out _ (Gr.refl _)
            have m10 := mc10 TM.out _ (Gr.refl _)
            try dsimp only at m0 m1 m2 m3 m4 m5 m6 m7 m8 m9 m10
            cases tr
            · go_wp2_with fail
              try rw [Exit.noGoto_ret]
              go_ret
              exact ⟨_, rfl, G.out, by rw [HR.out, HRF.out]; rw [HTR.out]; rfl⟩
            · go_wp2_with fail
              clear m0 m1 m2 m3 m4 m5 m6 m7 m8 m9 m10
              clear x0 x1 x2
              refine (ref_crosses w4 _ M k xf xt it HM.out HF.out HIT.out (.inr HOK.out.2.1.1)).mono ?_
              rintro _ w5 ⟨_, rfl, g5, rfl⟩
              have G := Lib.hid (G.out.trans g5)
              have TM := Lib.hid (TM.out.grow g5)
              have TX := Lib.hid (TX.out.grow g5)
              have TI := Lib.hid (TI.out.grow g5)
              have HM := Lib.hid (HM.out.grow g5)
              clear g5
              obtain ⟨tx, htx⟩ : ∃ t, crossM M xf xt it = t := ⟨_, rfl⟩
              rw [htx]
              have HTX := Lib.hid htx
              clear htx
              have x0 := TX.out.at 0 rfl
              have x1 := TX.out.at 1 rfl
              have x2 := TX.out.at 2 rfl
              have m0 := mc0 TM.out _ (Gr.refl _)
              have m1 := mc1 TM.out _ (Gr.refl _)
              have m2 := mc2 TM.out _ (Gr.refl _)
              have m3 := mc3 TM.out _ (Gr.refl _)
              have m4 := mc4 TM.out _ (Gr.refl _)
              have m5 := mc5 TM.out _ (Gr.refl _)
              have m6 := mc6 TM.out _ (Gr.refl _)
              have m7 := mc7 TM.out _ (Gr.refl _)
              have m8 := mc8 TM.out _ (Gr.refl _)
              have m9 := mc9 TM.out _ (Gr.refl _)
              have m10 := mc10 TM.out _ (Gr.refl _)
              try dsimp only at m0 m1 m2 m3 m4 m5 m6 m7 m8 m9 m10
              cases tx
              · go_wp2_with fail
                try rw [Exit.noGoto_ret]
                go_ret
                exact ⟨_, rfl, G.out, by rw [HR.out, HRF.out]; rw [HTR.out, HTX.out]; rfl⟩
              · go_wp2_with fail
                clear m0 m1 m2 m3 m4 m5 m6 m7 m8 m9 m10
                clear x0 x1 x2
                refine (ref_link w5 _ M k xf xt it HM.out HF.out HIT.out (.inr HOK.out.2.1.1)).mono ?_
                rintro _ w6 ⟨_, rfl, g6, rfl⟩
                have G := Lib.hid (G.out.trans g6)
                have TM := Lib.hid (TM.out.grow g6)
                have TX := Lib.hid (TX.out.grow g6)
                have TI := Lib.hid (TI.out.grow g6)
                have HM := Lib.hid (HM.out.grow g6)
                clear g6
                go_wp2_with fail
                try rw [Exit.noGoto_ret]
                go_ret
                exact ⟨_, rfl, G.out, by rw [HR.out, HRF.out]; rw [HTR.out, HTX.out]; rfl⟩
        · go_wp2_with fail
          try rw [Exit.noGoto_ret]
          go_ret
          exact ⟨_, rfl, G.out, by rw [HR.out, HRF.out]; skip; rfl⟩
  · have HR := Lib.hid (show fitsM M ⟨xi, xf, xt⟩ = false from by unfold fitsM; simp only; rw [if_neg k1])
    go_wp2_with fail
    try rw [Exit.noGoto_ret]
    go_ret
    exact ⟨_, rfl, G.out, by rw [HR.out]; rfl⟩
theorem ref_valid (w : World) (P : Ptrs) (M : Mdl) (x : MvM) (hm : MdlAt w P M) (hf : Few M) (hv : MdlOK M) :
    Calls Tryz.prog 44 #[.agg (mcells P M), .agg (moveV x)] w (Ret w fun r _ => r = .bool (fitsM M x)) := ref_valid' w P M x.item x.frm x.to hm hf hv
theorem ref_Valid23 (w : World) (P : Ptrs) (M : Mdl) (x : MvM) (hm : MdlAt w P M) (hf : Few M) :
    Calls Tryz.prog 13 #[.agg (mcells P M), .agg (moveV x)] w (Ret w fun r _ => Tells (MoveOK M x) r) := by
  have HM0 := Lib.hid hm
  have HF := Lib.hid hf
  have B0 := Cells.new w (mcells P M) 29
  have B1 := Cells.new (w.alloc (.cells (mcells P M) 29)) (moveV x) 31
  simp only [World.size_alloc] at B1
  have m0 := mc0 B0.2 _ B1.1
  have m1 := mc1 B0.2 _ B1.1
  have m2 := mc2 B0.2 _ B1.1
  have m3 := mc3 B0.2 _ B1.1
  have m4 := mc4 B0.2 _ B1.1
  have m5 := mc5 B0.2 _ B1.1
  have m6 := mc6 B0.2 _ B1.1
  have m7 := mc7 B0.2 _ B1.1
  have m8 := mc8 B0.2 _ B1.1
  have m9 := mc9 B0.2 _ B1.1
  have m10 := mc10 B0.2 _ B1.1
  have x0 : World.cell? _ ⟨_, 0, none⟩ = some (.int .i64 x.item) := (B1.2).at 0 rfl
  have x1 : World.cell? _ ⟨_, 1, none⟩ = some (.int .i64 x.frm) := (B1.2).at 1 rfl
  have x2 : World.cell? _ ⟨_, 2, none⟩ = some (.int .i64 x.to) := (B1.2).at 2 rfl
  have H := Lib.hid (show _ ∧ _ ∧ _ from ⟨B0.1.trans B1.1, B0.2.grow B1.1, B1.2⟩)
  clear B0 B1 hm hf
  unfold mcells moveV at H m0 m1 m2 m3 m4 m5 m6 m7 m8 m9 m10 x0 x1 x2 ⊢
  go_enter Tryz.func13, Tryz.ntmps13
  go_wp2_with fail
  clear m0 m1 m2 m3 m4 m5 m6 m7 m8 m9 m10 x0 x1 x2
  generalize w.heap.size + 1 = bx at H ⊢
  generalize w.heap.size = bm at H ⊢
  generalize (w.alloc _).alloc _ = W at H ⊢
  have G := Lib.hid (show Gr w W from H.out.1)
  have TM := Lib.hid (show Cells W bm (mcells P M) from H.out.2.1)
  have TX := Lib.hid (show Cells W bx (moveV x) from H.out.2.2)
  have HM := Lib.hid (HM0.out.grow G.out)
  clear H
  refine (ref_Valid15 W P M HM.out HF.out).mono ?_
  rintro _ w1 ⟨r1, rfl, g1, h⟩
  have G := Lib.hid (G.out.trans g1)
  have TM := Lib.hid (TM.out.grow g1)
  have TX := Lib.hid (TX.out.grow g1)
  have HM := Lib.hid (HM.out.grow g1)
  clear g1
  rcases h.cases with ⟨rfl, k1⟩ | ⟨rfl, k1⟩
  · have HV := Lib.hid k1
    clear h k1
    have m0 := mc0 TM.out _ (Gr.refl _)
    have m1 := mc1 TM.out _ (Gr.refl _)
    have m2 := mc2 TM.out _ (Gr.refl _)
    have m3 := mc3 TM.out _ (Gr.refl _)
    have m4 := mc4 TM.out _ (Gr.refl _)
    have m5 := mc5 TM.out _ (Gr.refl _)
    have m6 := mc6 TM.out _ (Gr.refl _)
    have m7 := mc7 TM.out _ (Gr.refl _)
    have m8 := mc8 TM.out _ (Gr.refl _)
    have m9 := mc9 TM.out _ (Gr.refl _)
    have m10 := mc10 TM.out _ (Gr.refl _)
    have x0 : World.cell? _ ⟨_, 0, none⟩ = some (.int .i64 x.item) := (TX.out).at 0 rfl
    have x1 : World.cell? _ ⟨_, 1, none⟩ = some (.int .i64 x.frm) := (TX.out).at 1 rfl
    have x2 : World.cell? _ ⟨_, 2, none⟩ = some (.int .i64 x.to) := (TX.out).at 2 rfl
    go_wp2_with fail
    clear m0 m1 m2 m3 m4 m5 m6 m7 m8 m9 m10
    refine (ref_valid w1 P M x HM.out HF.out HV.out).mono ?_
    rintro _ w2 ⟨_, rfl, g2, rfl⟩
    have G := Lib.hid (G.out.trans g2)
    obtain ⟨t, ht⟩ : ∃ t, fitsM M x = t := ⟨_, rfl⟩
    rw [ht]
    have HT2 := Lib.hid ht
    clear ht g2
    go_wp2_with fail
    go_ret
    exact ⟨_, rfl, G.out, t, rfl, ⟨fun h => ⟨HV.out, HT2.out.trans h⟩, fun h => HT2.out.symm.trans h.2⟩⟩
  · have HV := Lib.hid k1
    clear h k1
    go_wp2_with fail
    go_ret
    exact ⟨_, rfl, G.out, Tells.no fun h => HV.out h.1⟩
end Go.Proofs.YtdekicijinmakaaGreatDoor

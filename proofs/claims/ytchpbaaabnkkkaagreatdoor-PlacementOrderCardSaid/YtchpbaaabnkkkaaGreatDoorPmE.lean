/-
 Spread of placements; exodusref14.Ints.
-/
import Derived.Test.YtchpbaaabnkkkaaGreatDoorPmD
import Derived.Test.YtchpbaaabnkkkaaGreatDoorPlC
import Derived.Test.YtchpbaaabnkkkaaGreatDoorInv
import Derived.Laws.MakeOwn
import Derived.Laws.OwnMore
namespace Go.Proofs.YtchpbaaabnkkkaaGreatDoor
open Go.RowKit Go.Lib Lex
set_option linter.unusedVariables false
set_option linter.unusedSimpArgs false

theorem make_ints (w : World) (D : Nat) (hD : D ≤ 1000) : ∃ w', (Instr.makeSlice 49 (.int .i64 (D : Int)) (.int .i64 (D : Int))).run Tryz.prog w = .ok (.slice (some ⟨w.heap.size, 0, none⟩) D D) w' ∧
  OwnL w' w.heap.size 3 1 encI (.slice (some ⟨w.heap.size, 0, none⟩) D D) (List.replicate D 0) ∧ Gr w w' := by
 obtain ⟨i0, hi, hz0, hz1, hz2⟩ := info_parts int_info
 obtain ⟨w', h1, h2, h3⟩ := run_makeSlice_full (P := Tryz.prog) w w.heap.size 49 3 i0 (.int .i64 0) 1 Tryz.underlying49 hi hz0 hz1 .i64 .i64 D (by omega) (by rw [hz2]; omega) (by unfold maxLen; omega) (Nat.le_refl _)
 refine ⟨w', h1, ?_, ?_⟩
 ·have e : (madeCells (Value.int .i64 0).cells (D * 1)).toList = (List.replicate D 0).flatMap encI := by
   have e2 : ∀ n : Nat, (List.replicate n (0 : Int)).flatMap encI = List.replicate n (Value.int .i64 0) := fun n => by
    induction n with
    | zero => rfl
    | succ n ih => rw [List.replicate_succ, List.flatMap_cons, ih, List.replicate_succ]; rfl
   rw [e2, Nat.mul_one]
   simp [madeCells, Value.cells, Nat.mod_one]
   refine List.ext_getElem (by simp) (fun j h1 h2 => by simp)
  unfold OwnL
  rw [← e, List.length_replicate]
  exact h2
 ·exact ⟨h3.os, h3.tape, h3.output, h3.size, fun k hk => h3.block k hk (by simp)⟩
theorem spread_put {w : World} {base g D : Nat} {M : Mdl} {by' m : Int} {ms : List Int} {j : Nat} (h : OwnL w base 3 1 encI (.slice (some ⟨g, 0, none⟩) D D) (spreadL M by' ms)) (hd : domainM M by' m = (j : Int) + 1) (hj : j < (domsM M by').toNat) :
  base ≤ g ∧ w.cell? ⟨g, j, none⟩ = some (.int .i64 (cntD M by' ms ((j : Int) + 1) : Int)) ∧ w.frozen? ⟨g, j, none⟩ = false ∧
  OwnL (w.setCell ⟨g, j, none⟩ (.int .i64 ((cntD M by' ms ((j : Int) + 1) : Int) + 1))) base 3 1 encI (.slice (some ⟨g, 0, none⟩) D D) (spreadL M by' (ms ++ [m])) := by
 obtain ⟨h1, h2, h3, h4, h5⟩ := OwnL.putS encI_len h ((cntD M by' ms ((j : Int) + 1) : Int) + 1) 0 (.int .i64 ((cntD M by' ms ((j : Int) + 1) : Int) + 1)) (spreadL_at hj) (by decide) rfl
 simp only [Nat.mul_one, Nat.add_zero] at h3 h4 h5
 rw [spreadL_in hd hj]
 exact ⟨h1, h3, h4, h5⟩
theorem own_off {w : World} {base : Nat} {p : Option Addr} {n c : Nat} {l : List Int} (h : OwnL w base 3 1 encI (.slice p n c) l) : ∀ a, p = some a → base ≤ a.block ∧ a.block < w.heap.size := fun a ha => by
 subst ha
 have := h.lt a.block rfl
 exact this
theorem cntD_le (M : Mdl) (by' : Int) (ms : List Int) (d : Int) : cntD M by' ms d ≤ ms.length := List.length_filter_le _ _
theorem take_snoc {α : Type} {l : List α} {k : Nat} {x : α} (h : l[k]? = some x) : l.take (k + 1) = l.take k ++ [x] := by
 rw [List.take_add_one, h]; rfl
theorem doms_le {M : Mdl} (hf : Few M) (k : Int) : 0 ≤ domsM M k ∧ domsM M k ≤ 24 := by
 have := hf.1
 unfold domsM
 repeat (split; omega)
 omega
theorem machinesP_few {X : Plc} (h : FewK X) (i s : Int) : (machinesP X i s).length ≤ 1000 := by
 rw [machinesP_len]
 exact Nat.le_trans (List.length_filter_le _ _) (unitsP_few h i)
set_option maxRecDepth 100000 in
set_option maxHeartbeats 1600000 in
theorem plc_Spread (w : World) (P : Ptrs) (M : Mdl) (p : Option Addr) (c : Nat) (L : List RowU) (item by' : Int) (hm : MdlAt w P M) (hf : Few M) (hp : PlcAt w p c L) (hk : FewK (usOf L)) :
  Calls Tryz.prog 41 #[.agg (mcells P M), plcV p c L, .int .i64 item, .int .i64 by'] w (Ret w fun r w' => IntL w' r (spreadL M by' (machinesP (usOf L) item 0))) := by
 have HF := Lib.hid hf
 have HK := Lib.hid hk
 clear hf hk
 have HM0 := Lib.hid hm
 have HP0 := Lib.hid hp
 have B0 := Cells.new w (mcells P M) 29
 have B1 := Cells.new (w.alloc (.cells (mcells P M) 29)) #[.slice p L.length c] 34
 simp only [World.size_alloc] at B1
 have m0 := mc0 B0.2 _ B1.1
 have m1 := mc1 B0.2 _ B1.1
 have m2 := mc2 B0.2 _ B1.1
 have m3 := mc3 B0.2 _ B1.1
 have m4 := mc4 B0.2 _ B1.1
 have m5 := mc5 B0.2 _ B1.1
 have m6 := mc6 B0.2 _ B1.1
 have m7 := mc7 B0.2 _ B1.1
 have m8 := mc8 B0.2 _ B1.1
 have m9 := mc9 B0.2 _ B1.1
 have m10 := mc10 B0.2 _ B1.1
 have p0 := B1.2.at 0 rfl
 have H := Lib.hid (show _ ∧ _ ∧ _ from ⟨B0.1.trans B1.1, B0.2.grow B1.1, B1.2⟩)
 clear B0 B1 hm hp
 unfold mcells at H m0 m1 m2 m3 m4 m5 m6 m7 m8 m9 m10 ⊢
 unfold plcV
 go_enter Tryz.func41, Tryz.ntmps41
 go_wp2_with fail
 clear m0 m1 m2 m3 m4 m5 m6 m7 m8 m9 m10 p0
 generalize w.heap.size + 1 = bp at H ⊢
 generalize w.heap.size = bm at H ⊢
 generalize (w.alloc _).alloc _ = W at H ⊢
 have G := Lib.hid (show Gr w W from H.out.1)
 have TM := Lib.hid (show Cells W bm (mcells P M) from H.out.2.1)
 have TP := Lib.hid (show Cells W bp #[.slice p L.length c] from H.out.2.2)
 have HM := Lib.hid (HM0.out.grow G.out)
 have HP := Lib.hid (HP0.out.grow G.out)
 clear H
 refine (site_Domains W P M by' HM.out).mono ?_
 rintro _ w1 ⟨_, rfl, g1, rfl⟩
 have G := Lib.hid (G.out.trans g1)
 have TM := Lib.hid (TM.out.grow g1)
 have TP := Lib.hid (TP.out.grow g1)
 have HM := Lib.hid (HM.out.grow g1)
 have HP := Lib.hid (HP.out.grow g1)
 clear g1
 obtain ⟨D, hD⟩ : ∃ D : Nat, domsM M by' = (D : Int) := ⟨(domsM M by').toNat, by have := doms_le HF.out by'; omega⟩
 have HD := Lib.hid hD
 rw [hD]
 have hD24 : D ≤ 1000 := by have := doms_le HF.out by'; omega
 obtain ⟨W2, hr, ho, hg⟩ := make_ints w1 D hD24
 have HO := Lib.hid ho
 have GA := Lib.hid hg
 have s0 := (TP.out.grow hg).at 0 rfl
 clear hD ho hg
 go_wp2_with fail
 clear hr s0
 refine (plc_Machines W2 p c L item 0 (HP.out.grow GA.out) HK.out).mono ?_
 rintro _ w3 ⟨r3, rfl, g3, h3⟩
 have hml := machinesP_few HK.out item 0
 obtain ⟨ms, hmq⟩ : ∃ ms, machinesP (usOf L) item 0 = ms := ⟨_, rfl⟩
 rw [hmq] at h3 hml
 have HMQ := Lib.hid hmq
 clear hmq
 obtain ⟨pm, cm, hv, _, _⟩ := h3.read.parts
 obtain ⟨nm, hnm⟩ : ∃ n, ms.length = n := ⟨_, rfl⟩
 rw [hnm] at hv
 subst hv
 have HNM := Lib.hid hnm
 have HMS := Lib.hid (show IntL w3 (.slice pm nm cm) ms from h3.read)
 obtain ⟨g, hgw⟩ : ∃ g, w1.heap.size = g := ⟨_, rfl⟩
 rw [hgw] at HO
 have HGW := Lib.hid hgw
 have HOFF := Lib.hid (show OffA pm g from fun a ha e => by
  have h1 := (own_off h3 a ha).1
  have h2 := (HO.out.lt g rfl).2
  omega)
 have HO := Lib.hid (HO.out.grow g3)
 have GA := Lib.hid (GA.out.trans g3)
 rw [hgw]
 clear h3 g3 hnm hgw
 go_wp2_with fail
 go_loopw [21] (fun i w9 => ∃ k : Nat, i = .int .i64 (k : Int) ∧ k ≤ nm ∧ OwnL w9 g 3 1 encI (.slice (some ⟨g, 0, none⟩) D D) (spreadL M by' (ms.take k)) ∧ IntL w9 (.slice pm nm cm) ms ∧ Gr w1 w9) (fun i _ => nm - (RowKit.intOf i).toNat)
 case atStart => exact ⟨0, rfl, Nat.zero_le _, by rw [List.take_zero, spreadL_nil, HD.out]; exact HO.out, HMS.out, GA.out⟩
 case round =>
  clear HO HMS GA
  obtain ⟨k, rfl, hk, ho, hms, hg⟩ := hrel
  have HO := Lib.hid ho
  have HMS := Lib.hid hms
  have GL := Lib.hid hg
  clear ho hms hg
  by_cases hlt : k < nm
  ·have hlt' : (k : Int) < (nm : Int) := by omega
   obtain ⟨b, o, m, rfl, hx, hc⟩ := int_at HMS.out HNM.out hlt
   have c0 := hc _ (Gr.refl _)
   have HT := Lib.hid (take_snoc hx)
   have TMx := Lib.hid (TM.out.grow GL.out)
   have m0 := mc0 TMx.out _ (Gr.refl _)
   have m1 := mc1 TMx.out _ (Gr.refl _)
   have m2 := mc2 TMx.out _ (Gr.refl _)
   have m3 := mc3 TMx.out _ (Gr.refl _)
   have m4 := mc4 TMx.out _ (Gr.refl _)
   have m5 := mc5 TMx.out _ (Gr.refl _)
   have m6 := mc6 TMx.out _ (Gr.refl _)
   have m7 := mc7 TMx.out _ (Gr.refl _)
   have m8 := mc8 TMx.out _ (Gr.refl _)
   have m9 := mc9 TMx.out _ (Gr.refl _)
   have m10 := mc10 TMx.out _ (Gr.refl _)
   clear hx hc
   go_wp2_with fail
   clear m0 m1 m2 m3 m4 m5 m6 m7 m8 m9 m10
   clear c0
   refine (site_Domain _ P M by' m (HM.out.grow GL.out) HF.out).mono ?_
   rintro _ w6 ⟨_, rfl, g6, rfl⟩
   have HO := Lib.hid (HO.out.grow g6)
   have HMS := Lib.hid (SlL.grow HMS.out g6)
   have GL := Lib.hid (GL.out.trans g6)
   clear g6 TMx
   have hgb : w1.heap.size ≤ g := Nat.le_of_eq HGW.out
   have hnb : nm ≤ 1000 := by have := HNM.out; omega
   have hk1 : IntKind.i64.wrap ((k : Int) + 1) = (k : Int) + 1 := by rw [IntKind.wrap_i64]; omega
   rcases domainM_cases M by' m with hd | hd
   ·have HS := Lib.hid (spreadL_out (M := M) (by' := by') (ms := ms.take k) (m := m) (by omega))
    rw [hd]
    go_wp2_with fail
    exact ⟨⟨k + 1, by go_num, by omega, by rw [HT.out, HS.out]; exact HO.out, HMS.out, GL.out⟩, by simp [RowKit.intOf]; omega⟩
   ·obtain ⟨j, hj⟩ : ∃ j : Nat, domainM M by' m = (j : Int) + 1 := ⟨(domainM M by' m - 1).toNat, by omega⟩
    have hjD : j < (domsM M by').toNat := by omega
    obtain ⟨q1, q2, q3, q4⟩ := spread_put HO.out hj hjD
    have hjl : (j : Int) < (D : Int) := by have := HD.out; omega
    have hc := cntD_le M by' (ms.take k) ((j : Int) + 1)
    rw [List.length_take] at hc
    rw [hj]
    clear hd hj
    have HQ := Lib.hid q4
    have hcw : IntKind.i64.wrap ((cntD M by' (ms.take k) ((j : Int) + 1) : Int) + 1) = (cntD M by' (ms.take k) ((j : Int) + 1) : Int) + 1 := by rw [IntKind.wrap_i64]; omega
    have hjw : IntKind.i64.wrap ((j : Int) + 1 - 1) = (j : Int) := by rw [IntKind.wrap_i64]; omega
    have hj0 : (0 : Int) < (j : Int) + 1 := by omega
    have hGQ := Lib.hid (show Gr w1 (w6.setCell ⟨g, j, none⟩ (.int .i64 ((cntD M by' (ms.take k) ((j : Int) + 1) : Int) + 1))) from GL.out.set (by omega) _)
    have hMQ := Lib.hid (show IntL (w6.setCell ⟨g, j, none⟩ (.int .i64 ((cntD M by' (ms.take k) ((j : Int) + 1) : Int) + 1))) (.slice _ nm cm) ms from SlL.updA HMS.out (upd_set _ _ _ _) HOFF.out)
    clear q1 q4 hc
    go_wp2_with fail
    exact ⟨⟨k + 1, by go_num, by omega, by rw [HT.out]; exact HQ.out, hMQ.out, hGQ.out⟩, by simp [RowKit.intOf]; omega⟩
  ·obtain rfl : k = nm := by omega
   have h9 := HO.out
   rw [List.take_of_length_le (by rw [HNM.out]; exact Nat.le_refl _)] at h9
   have H9 := Lib.hid h9.read
   clear h9
   go_wp2_with fail
   go_ret
   exact ⟨_, rfl, G.out.trans GL.out, by rw [HMQ.out]; exact H9.out⟩
set_option maxRecDepth 100000 in
set_option maxHeartbeats 1600000 in
theorem ref_Spread20 (w : World) (P : Ptrs) (M : Mdl) (p : Option Addr) (c : Nat) (L : List RowU) (item by' : Int) (hm : MdlAt w P M) (hf : Few M) (hp : PlcAt w p c L) (hk : FewK (usOf L)) :
  Calls Tryz.prog 42 #[.agg (mcells P M), plcV p c L, .int .i64 item, .int .i64 by'] w (Ret w fun r w' => IntL w' r (spreadL M by' (machinesP (usOf L) item 0))) := by
 have HF := Lib.hid hf
 have HK := Lib.hid hk
 clear hf hk
 have HM0 := Lib.hid hm
 have HP0 := Lib.hid hp
 have B0 := Cells.new w (mcells P M) 29
 have B1 := Cells.new (w.alloc (.cells (mcells P M) 29)) #[.slice p L.length c] 34
 simp only [World.size_alloc] at B1
 have m0 := mc0 B0.2 _ B1.1
 have m1 := mc1 B0.2 _ B1.1
 have m2 := mc2 B0.2 _ B1.1
 have m3 := mc3 B0.2 _ B1.1
 have m4 := mc4 B0.2 _ B1.1
 have m5 := mc5 B0.2 _ B1.1
 have m6 := mc6 B0.2 _ B1.1
 have m7 := mc7 B0.2 _ B1.1
 have m8 := mc8 B0.2 _ B1.1
 have m9 := mc9 B0.2 _ B1.1
 have m10 := mc10 B0.2 _ B1.1
 have p0 := B1.2.at 0 rfl
 have H := Lib.hid (show _ ∧ _ ∧ _ from ⟨B0.1.trans B1.1, B0.2.grow B1.1, B1.2⟩)
 clear B0 B1 hm hp
 unfold mcells at H m0 m1 m2 m3 m4 m5 m6 m7 m8 m9 m10 ⊢
 unfold plcV
 go_enter Tryz.func42, Tryz.ntmps42
 go_wp2_with fail
 clear m0 m1 m2 m3 m4 m5 m6 m7 m8 m9 m10 p0
 generalize w.heap.size + 1 = bp at H ⊢
 generalize w.heap.size = bm at H ⊢
 generalize (w.alloc _).alloc _ = W at H ⊢
 have G := Lib.hid (show Gr w W from H.out.1)
 have TM := Lib.hid (show Cells W bm (mcells P M) from H.out.2.1)
 have TP := Lib.hid (show Cells W bp #[.slice p L.length c] from H.out.2.2)
 have HM := Lib.hid (HM0.out.grow G.out)
 have HP := Lib.hid (HP0.out.grow G.out)
 clear H
 have hml := machinesP_few HK.out item 0
 obtain ⟨ms, hmq⟩ : ∃ ms, machinesP (usOf L) item 0 = ms := ⟨_, rfl⟩
 rw [hmq] at hml
 have HMQ := Lib.hid hmq
 clear hmq
 obtain ⟨D, hD⟩ : ∃ D : Nat, domsM M by' = (D : Int) := ⟨(domsM M by').toNat, by have := doms_le HF.out by'; omega⟩
 have HD := Lib.hid hD
 have hD24 : D ≤ 1000 := by have := doms_le HF.out by'; omega
 clear hD
 have hI0 : Gr W W.drew := (Gr.refl _).drew
 have m0 := mc0 TM.out
 have m1 := mc1 TM.out
 have m2 := mc2 TM.out
 have m3 := mc3 TM.out
 have m4 := mc4 TM.out
 have m5 := mc5 TM.out
 have m6 := mc6 TM.out
 have m7 := mc7 TM.out
 have m8 := mc8 TM.out
 have m9 := mc9 TM.out
 have m10 := mc10 TM.out
 try dsimp only at m0 m1 m2 m3 m4 m5 m6 m7 m8 m9 m10
 have s0 := TP.out.c 0 rfl
 refine Inv.wp_region_loose (fun w' => Gr W w') (.read 0 (.read 1 (.read 4 (.read 5 (.one 2 (.two 3 (.one 6 (.read 7 (.read 8 .stop))) 6 (.one 3 (.read 7 (.read 8 .stop))))))))) hI0 (by kernel_rfl) (by kernel_rfl) rfl (by kernel_rfl) (fun _ _ d _ _ h => by cases d <;> exact h) ?_
 repeat (refine Inv.wpL_read (v := ?_) rfl rfl (fun w' hg => ?_) (fun K hK => ?_); rotate_left; (go_simp; rfl); go_simp; refine hK _ _ ?_; clear hK K)
 clear m0 m1 m2 m3 m4 m5 m6 m7 m8 m9 m10
 clear s0
 refine Inv.wpL_fn (args := ?_) rfl rfl rfl rfl rfl rfl (by kernel_rfl) (by kernel_rfl) ?_ (fun K hK => ?_)
 rotate_left
 ·go_simp; rfl
 refine (ref_Domains14 _ P M by' (HM.out.grow hI0)).mono ?_
 rintro _ w1 ⟨_, rfl, g1, rfl⟩
 have g01 := hI0.trans g1
 rw [HD.out]
 refine ⟨_, rfl, g01, ?_⟩
 go_simp
 refine hK _ _ ?_
 clear hK K
 refine Inv.wpL_two ?_ ?_
 ·obtain ⟨W2, hr, ho, hg⟩ := make_ints w1 D hD24
  have g2 := g01.trans hg
  refine Inv.wpL_val (v := .slice (some ⟨w1.heap.size, 0, none⟩) D D) (w' := W2) rfl rfl ?_ g2 (fun K hK => ?_)
  ·go_simp
  go_simp
  refine hK _ _ ?_
  clear hK K hr
  refine Inv.wpL_fn (args := ?_) rfl rfl rfl rfl rfl rfl (by kernel_rfl) (by kernel_rfl) ?_ (fun K hK => ?_)
  rotate_left
  ·go_simp; rfl
  refine (ref_Machines20 W2 p c L item 0 (HP.out.grow g2) HK.out).mono ?_
  rintro _ w3 ⟨r3, rfl, g3, h3⟩
  rw [HMQ.out] at h3
  obtain ⟨pm, cm, hv, _, _⟩ := h3.read.parts
  obtain ⟨nm, hnm⟩ : ∃ n, ms.length = n := ⟨_, rfl⟩
  rw [hnm] at hv
  subst hv
  have HNM := Lib.hid hnm
  refine ⟨_, rfl, g2.trans g3, ?_⟩
  go_simp
  refine hK _ _ ?_
  clear hK K
  repeat (refine Inv.wpL_read (v := ?_) rfl rfl (fun w' hg => ?_) (fun K hK => ?_); rotate_left; (go_simp; rfl); go_simp; refine hK _ _ ?_; clear hK K)
  refine Inv.wpL_stop ?_
  have HMS := Lib.hid (show IntL w3 (.slice pm nm cm) ms from h3.read)
  obtain ⟨g, hgw⟩ : ∃ g, w1.heap.size = g := ⟨_, rfl⟩
  rw [hgw] at ho
  have HGW := Lib.hid (show W.heap.size ≤ g by rw [← hgw]; exact g01.size)
  have HOFF := Lib.hid (show OffA pm g from fun a ha e => by
   have h1 := (own_off h3 a ha).1
   have h2 := (ho.lt g rfl).2
   omega)
  have HO := Lib.hid (ho.grow g3)
  have GA := Lib.hid (g2.trans g3)
  rw [hgw]
  clear h3 g3 hnm hgw g2 hg ho g01 g1 hI0
  go_wp2_with fail
  go_loopw [11] (fun i w9 => ∃ k : Nat, i = .int .i64 (k : Int) ∧ k ≤ nm ∧ OwnL w9 g 3 1 encI (.slice (some ⟨g, 0, none⟩) D D) (spreadL M by' (ms.take k)) ∧ IntL w9 (.slice pm nm cm) ms ∧ Gr W w9) (fun i _ => nm - (RowKit.intOf i).toNat)
  case atStart => exact ⟨0, rfl, Nat.zero_le _, by rw [List.take_zero, spreadL_nil, HD.out]; exact HO.out, HMS.out, GA.out⟩
  case round =>
   clear HO HMS GA
   obtain ⟨k, rfl, hk, ho, hms, hg⟩ := hrel
   have HO := Lib.hid ho
   have HMS := Lib.hid hms
   have GL := Lib.hid hg
   clear ho hms hg
   by_cases hlt : k < nm
   ·have hlt' : (k : Int) < (nm : Int) := by omega
    obtain ⟨b, o, m, rfl, hx, hc⟩ := int_at HMS.out HNM.out hlt
    have HT := Lib.hid (take_snoc hx)
    have TMx := Lib.hid (TM.out.grow GL.out)
    go_wp2_with fail
    have m0 := mc0 TMx.out
    have m1 := mc1 TMx.out
    have m2 := mc2 TMx.out
    have m3 := mc3 TMx.out
    have m4 := mc4 TMx.out
    have m5 := mc5 TMx.out
    have m6 := mc6 TMx.out
    have m7 := mc7 TMx.out
    have m8 := mc8 TMx.out
    have m9 := mc9 TMx.out
    have m10 := mc10 TMx.out
    clear hx
    have g0 : Gr wr wr.drew := (Gr.refl _).drew
    refine wp_region_fast [(0, true), (1, true), (2, true), (3, true), (4, true), (5, true), (6, false), (7, true)] (by kernel_rfl) (by kernel_rfl) rfl (by kernel_rfl) (fun _ _ d _ _ h => by cases d <;> exact h) ?_
    repeat (refine wpE_readB (v := ?_) g0 rfl rfl (fun w' hg => ?_) (fun K hK => ?_); rotate_left; (go_simp; rfl); go_simp; refine hK _ _ ?_; clear hK K)
    clear m0 m1 m2 m3 m4 m5 m6 m7 m8 m9 m10
    clear hc
    refine wpE_fn (args := ?_) rfl rfl rfl rfl rfl rfl (by kernel_rfl) (by kernel_rfl) ?_ (fun K hK => ?_)
    rotate_left
    ·go_simp; rfl
    refine (ref_Domain14 _ P M by' m (HM.out.grow (GL.out.trans g0)) HF.out).mono ?_
    rintro _ w6 ⟨_, rfl, g6, rfl⟩
    refine ⟨_, rfl, g6, ?_⟩
    go_simp
    refine hK _ _ ?_
    clear hK K
    have g06 := g0.trans g6
    have g9 := Gr.refl w6
    repeat (refine wpE_readB (v := ?_) g9 rfl rfl (fun w' hg => ?_) (fun K hK => ?_); rotate_left; (go_simp; rfl); go_simp; refine hK _ _ ?_; clear hK K)
    refine wpE_nil ?_
    have HO := Lib.hid (HO.out.grow g06)
    have HMS := Lib.hid (SlL.grow HMS.out g06)
    have GL := Lib.hid (GL.out.trans g06)
    clear g6 TMx g0 g06 g9
    have hgb : W.heap.size ≤ g := HGW.out
    have hnb : nm ≤ 1000 := by have := HNM.out; omega
    have hk1 : IntKind.i64.wrap ((k : Int) + 1) = (k : Int) + 1 := by rw [IntKind.wrap_i64]; omega
    rcases domainM_cases M by' m with hd | hd
    ·have HS := Lib.hid (spreadL_out (M := M) (by' := by') (ms := ms.take k) (m := m) (by omega))
     rw [hd]
     go_wp2_with fail
     exact ⟨⟨k + 1, by go_num, by omega, by rw [HT.out, HS.out]; exact HO.out, HMS.out, GL.out⟩, by simp [RowKit.intOf]; omega⟩
    ·obtain ⟨j, hj⟩ : ∃ j : Nat, domainM M by' m = (j : Int) + 1 := ⟨(domainM M by' m - 1).toNat, by omega⟩
     have hjD : j < (domsM M by').toNat := by omega
     obtain ⟨q1, q2, q3, q4⟩ := spread_put HO.out hj hjD
     have hjl : (j : Int) < (D : Int) := by have := HD.out; omega
     have hc := cntD_le M by' (ms.take k) ((j : Int) + 1)
     rw [List.length_take] at hc
     rw [hj]
     clear hd hj
     have HQ := Lib.hid q4
     have hcw : IntKind.i64.wrap ((cntD M by' (ms.take k) ((j : Int) + 1) : Int) + 1) = (cntD M by' (ms.take k) ((j : Int) + 1) : Int) + 1 := by rw [IntKind.wrap_i64]; omega
     have hjw : IntKind.i64.wrap ((j : Int) + 1 - 1) = (j : Int) := by rw [IntKind.wrap_i64]; omega
     have hj0 : (0 : Int) < (j : Int) + 1 := by omega
     have hGQ := Lib.hid (show Gr W (w6.setCell ⟨g, j, none⟩ (.int .i64 ((cntD M by' (ms.take k) ((j : Int) + 1) : Int) + 1))) from GL.out.set (by omega) _)
     have hMQ := Lib.hid (show IntL (w6.setCell ⟨g, j, none⟩ (.int .i64 ((cntD M by' (ms.take k) ((j : Int) + 1) : Int) + 1))) (.slice _ nm cm) ms from SlL.updA HMS.out (upd_set _ _ _ _) HOFF.out)
     clear q1 q4 hc
     go_wp2_with fail
     exact ⟨⟨k + 1, by go_num, by omega, by rw [HT.out]; exact HQ.out, hMQ.out, hGQ.out⟩, by simp [RowKit.intOf]; omega⟩
   ·obtain rfl : k = nm := by omega
    have h9 := HO.out
    rw [List.take_of_length_le (by rw [HNM.out]; exact Nat.le_refl _)] at h9
    have H9 := Lib.hid h9.read
    clear h9
    go_wp2_with fail
    go_ret
    exact ⟨_, rfl, G.out.trans GL.out, by rw [HMQ.out]; exact H9.out⟩
 ·refine Inv.wpL_fn (args := ?_) rfl rfl rfl rfl rfl rfl (by kernel_rfl) (by kernel_rfl) ?_ (fun K hK => ?_)
  rotate_left
  ·go_simp; rfl
  refine (ref_Machines20 w1 p c L item 0 (HP.out.grow g01) HK.out).mono ?_
  rintro _ w3 ⟨r3, rfl, g3, h3⟩
  rw [HMQ.out] at h3
  obtain ⟨pm, cm, hv, _, _⟩ := h3.read.parts
  obtain ⟨nm, hnm⟩ : ∃ n, ms.length = n := ⟨_, rfl⟩
  rw [hnm] at hv
  subst hv
  have HNM := Lib.hid hnm
  have g03 := g01.trans g3
  refine ⟨_, rfl, g03, ?_⟩
  go_simp
  refine hK _ _ ?_
  clear hK K
  obtain ⟨W2, hr, ho, hg⟩ := make_ints w3 D hD24
  have g2 := g03.trans hg
  refine Inv.wpL_val (v := .slice (some ⟨w3.heap.size, 0, none⟩) D D) (w' := W2) rfl rfl ?_ g2 (fun K hK => ?_)
  ·go_simp
  go_simp
  refine hK _ _ ?_
  clear hK K hr
  repeat (refine Inv.wpL_read (v := ?_) rfl rfl (fun w' hg => ?_) (fun K hK => ?_); rotate_left; (go_simp; rfl); go_simp; refine hK _ _ ?_; clear hK K)
  refine Inv.wpL_stop ?_
  have HMS := Lib.hid (show IntL W2 (.slice pm nm cm) ms from SlL.grow h3.read hg)
  obtain ⟨g, hgw⟩ : ∃ g, w3.heap.size = g := ⟨_, rfl⟩
  rw [hgw] at ho
  have HGW := Lib.hid (show W.heap.size ≤ g by rw [← hgw]; exact g03.size)
  have HOFF := Lib.hid (show OffA pm g from fun a ha e => by
   have h1 := (own_off h3 a ha).2
   omega)
  have HO := Lib.hid ho
  have GA := Lib.hid g2
  rw [hgw]
  clear h3 g3 hnm hgw g2 hg ho g03 g01 g1 hI0
  go_wp2_with fail
  go_loopw [11] (fun i w9 => ∃ k : Nat, i = .int .i64 (k : Int) ∧ k ≤ nm ∧ OwnL w9 g 3 1 encI (.slice (some ⟨g, 0, none⟩) D D) (spreadL M by' (ms.take k)) ∧ IntL w9 (.slice pm nm cm) ms ∧ Gr W w9) (fun i _ => nm - (RowKit.intOf i).toNat)
  case atStart => exact ⟨0, rfl, Nat.zero_le _, by rw [List.take_zero, spreadL_nil, HD.out]; exact HO.out, HMS.out, GA.out⟩
  case round =>
   clear HO HMS GA
   obtain ⟨k, rfl, hk, ho, hms, hg⟩ := hrel
   have HO := Lib.hid ho
   have HMS := Lib.hid hms
   have GL := Lib.hid hg
   clear ho hms hg
   by_cases hlt : k < nm
   ·have hlt' : (k : Int) < (nm : Int) := by omega
    obtain ⟨b, o, m, rfl, hx, hc⟩ := int_at HMS.out HNM.out hlt
    have HT := Lib.hid (take_snoc hx)
    have TMx := Lib.hid (TM.out.grow GL.out)
    go_wp2_with fail
    have m0 := mc0 TMx.out
    have m1 := mc1 TMx.out
    have m2 := mc2 TMx.out
    have m3 := mc3 TMx.out
    have m4 := mc4 TMx.out
    have m5 := mc5 TMx.out
    have m6 := mc6 TMx.out
    have m7 := mc7 TMx.out
    have m8 := mc8 TMx.out
    have m9 := mc9 TMx.out
    have m10 := mc10 TMx.out
    clear hx
    have g0 : Gr wr wr.drew := (Gr.refl _).drew
    refine wp_region_fast [(0, true), (1, true), (2, true), (3, true), (4, true), (5, true), (6, false), (7, true)] (by kernel_rfl) (by kernel_rfl) rfl (by kernel_rfl) (fun _ _ d _ _ h => by cases d <;> exact h) ?_
    repeat (refine wpE_readB (v := ?_) g0 rfl rfl (fun w' hg => ?_) (fun K hK => ?_); rotate_left; (go_simp; rfl); go_simp; refine hK _ _ ?_; clear hK K)
    clear m0 m1 m2 m3 m4 m5 m6 m7 m8 m9 m10
    clear hc
    refine wpE_fn (args := ?_) rfl rfl rfl rfl rfl rfl (by kernel_rfl) (by kernel_rfl) ?_ (fun K hK => ?_)
    rotate_left
    ·go_simp; rfl
    refine (ref_Domain14 _ P M by' m (HM.out.grow (GL.out.trans g0)) HF.out).mono ?_
    rintro _ w6 ⟨_, rfl, g6, rfl⟩
    refine ⟨_, rfl, g6, ?_⟩
    go_simp
    refine hK _ _ ?_
    clear hK K
    have g06 := g0.trans g6
    have g9 := Gr.refl w6
    repeat (refine wpE_readB (v := ?_) g9 rfl rfl (fun w' hg => ?_) (fun K hK => ?_); rotate_left; (go_simp; rfl); go_simp; refine hK _ _ ?_; clear hK K)
    refine wpE_nil ?_
    have HO := Lib.hid (HO.out.grow g06)
    have HMS := Lib.hid (SlL.grow HMS.out g06)
    have GL := Lib.hid (GL.out.trans g06)
    clear g6 TMx g0 g06 g9
    have hgb : W.heap.size ≤ g := HGW.out
    have hnb : nm ≤ 1000 := by have := HNM.out; omega
    have hk1 : IntKind.i64.wrap ((k : Int) + 1) = (k : Int) + 1 := by rw [IntKind.wrap_i64]; omega
    rcases domainM_cases M by' m with hd | hd
    ·have HS := Lib.hid (spreadL_out (M := M) (by' := by') (ms := ms.take k) (m := m) (by omega))
     rw [hd]
     go_wp2_with fail
     exact ⟨⟨k + 1, by go_num, by omega, by rw [HT.out, HS.out]; exact HO.out, HMS.out, GL.out⟩, by simp [RowKit.intOf]; omega⟩
    ·obtain ⟨j, hj⟩ : ∃ j : Nat, domainM M by' m = (j : Int) + 1 := ⟨(domainM M by' m - 1).toNat, by omega⟩
     have hjD : j < (domsM M by').toNat := by omega
     obtain ⟨q1, q2, q3, q4⟩ := spread_put HO.out hj hjD
     have hjl : (j : Int) < (D : Int) := by have := HD.out; omega
     have hc := cntD_le M by' (ms.take k) ((j : Int) + 1)
     rw [List.length_take] at hc
     rw [hj]
     clear hd hj
     have HQ := Lib.hid q4
     have hcw : IntKind.i64.wrap ((cntD M by' (ms.take k) ((j : Int) + 1) : Int) + 1) = (cntD M by' (ms.take k) ((j : Int) + 1) : Int) + 1 := by rw [IntKind.wrap_i64]; omega
     have hjw : IntKind.i64.wrap ((j : Int) + 1 - 1) = (j : Int) := by rw [IntKind.wrap_i64]; omega
     have hj0 : (0 : Int) < (j : Int) + 1 := by omega
     have hGQ := Lib.hid (show Gr W (w6.setCell ⟨g, j, none⟩ (.int .i64 ((cntD M by' (ms.take k) ((j : Int) + 1) : Int) + 1))) from GL.out.set (by omega) _)
     have hMQ := Lib.hid (show IntL (w6.setCell ⟨g, j, none⟩ (.int .i64 ((cntD M by' (ms.take k) ((j : Int) + 1) : Int) + 1))) (.slice _ nm cm) ms from SlL.updA HMS.out (upd_set _ _ _ _) HOFF.out)
     clear q1 q4 hc
     go_wp2_with fail
     exact ⟨⟨k + 1, by go_num, by omega, by rw [HT.out]; exact HQ.out, hMQ.out, hGQ.out⟩, by simp [RowKit.intOf]; omega⟩
   ·obtain rfl : k = nm := by omega
    have h9 := HO.out
    rw [List.take_of_length_le (by rw [HNM.out]; exact Nat.le_refl _)] at h9
    have H9 := Lib.hid h9.read
    clear h9
    go_wp2_with fail
    go_ret
    exact ⟨_, rfl, G.out.trans GL.out, by rw [HMQ.out]; exact H9.out⟩
set_option maxRecDepth 100000 in
set_option maxHeartbeats 800000 in
theorem ref_Ints (w : World) (p q : Option Addr) (n c n2 d : Nat) (l m : List Int) (hl : IntL w (.slice p n c) l) (hm : IntL w (.slice q n2 d) m) (hn : l.length = n) (hn2 : m.length = n2) (hb : n ≤ 1000000) (hb2 : n2 ≤ 1000000) :
  Calls Tryz.prog 34 #[.slice p n c, .slice q n2 d] w (Ret w fun r _ => Tells (l = m) r) := by
 have HL := Lib.hid hl
 have HM := Lib.hid hm
 have HN := Lib.hid hn
 have HN2 := Lib.hid hn2
 clear hl hm hn hn2
 by_cases e : n = n2
 ·have e0 : ((n : Int) != (n2 : Int)) = false := by simp [e]
  have E := Lib.hid e
  clear e
  go_enter Tryz.func34, Tryz.ntmps34
  go_wp2_with fail
  go_loopw [5] (fun i w9 => ∃ k : Nat, i = .int .i64 (k : Int) ∧ k ≤ n ∧ (∀ j, j < k → l[j]? = m[j]?) ∧ Gr w w9) (fun i _ => n - (RowKit.intOf i).toNat)
  case atStart => exact ⟨0, rfl, Nat.zero_le _, fun j hj => by omega, Gr.refl _⟩
  case round =>
   obtain ⟨k, rfl, hk, hp, hg⟩ := hrel
   have HP := Lib.hid hp
   have G := Lib.hid hg
   clear hp hg
   by_cases hlt : k < n
   ·have hlt' : (k : Int) < (n : Int) := by omega
    have hlt2 : (k : Int) < (n2 : Int) := by have := E.out; omega
    obtain ⟨b, o, x, rfl, hx, hc⟩ := int_at (HL.out.grow G.out) HN.out hlt
    obtain ⟨b2, o2, y, rfl, hy, hc2⟩ := int_at (HM.out.grow G.out) HN2.out (show k < n2 by have := E.out; omega)
    have HX := Lib.hid hx
    have HY := Lib.hid hy
    have hk1 : IntKind.i64.wrap ((k : Int) + 1) = (k : Int) + 1 := by rw [IntKind.wrap_i64]; omega
    clear hx hy
    go_wp2_with fail
    have g0 : Gr wr wr.drew := (Gr.refl _).drew
    obtain ⟨t, ht⟩ : ∃ t, (x != y) = t := ⟨_, rfl⟩
    have HT := Lib.hid ht
    refine wp_region_fast [(0, true), (1, true), (2, true), (3, true), (4, true), (5, true), (6, true), (7, true), (8, true)] (by kernel_rfl) (by kernel_rfl) rfl (by kernel_rfl) (fun _ _ d _ _ h => by cases d <;> exact h) ?_
    repeat (refine wpE_readB (v := ?_) g0 rfl rfl (fun w' hg => ?_) (fun K hK => ?_); rotate_left; (go_simp; rfl); go_simp; refine hK _ _ ?_; clear hK K)
    refine wpE_nil ?_
    have G0 := Lib.hid g0
    clear hc hc2 g0
    cases t
    ·go_wp2_with fail
     refine ⟨⟨k + 1, by go_num, by omega, fun j hj => ?_, G.out.trans G0.out⟩, by simp [RowKit.intOf]; omega⟩
     by_cases h : j = k
     ·subst h
      rw [HX.out, HY.out, show x = y by simpa using HT.out]
     ·exact HP.out j (by omega)
    ·go_wp2_with fail
     try rw [Exit.noGoto_ret]
     go_ret
     exact ⟨_, rfl, G.out.trans G0.out, Tells.no fun h => by
      have h1 := HX.out
      have h2 := HY.out
      rw [h, h2] at h1
      have h3 := HT.out
      rw [Option.some.inj h1] at h3
      simp at h3⟩
   ·obtain rfl : k = n := by omega
    go_wp2_with fail
    go_ret
    exact ⟨_, rfl, G.out, Tells.yes (List.ext_getElem? fun j => by
     have e1 := HN.out
     have e2 := HN2.out
     have e3 := E.out
     rcases Nat.lt_or_ge j k with h | h
     ·exact HP.out j h
     ·rw [List.getElem?_eq_none (by omega), List.getElem?_eq_none (by omega)])⟩
 ·have e0 : ((n : Int) != (n2 : Int)) = true := by simp; omega
  have E := Lib.hid e
  go_enter Tryz.func34, Tryz.ntmps34
  go_wp2_with fail
  try rw [Exit.noGoto_ret]
  go_ret
  exact ⟨_, rfl, Gr.refl _, Tells.no fun h => E.out (by rw [← HN.out, ← HN2.out, h])⟩
end Go.Proofs.YtchpbaaabnkkkaaGreatDoor

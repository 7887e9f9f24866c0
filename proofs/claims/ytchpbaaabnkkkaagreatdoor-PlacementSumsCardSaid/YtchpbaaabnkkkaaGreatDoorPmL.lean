/-
 The law PlacementSums.
-/
import Derived.Test.YtchpbaaabnkkkaaGreatDoorPmI
namespace Go.Proofs.YtchpbaaabnkkkaaGreatDoor
open Go.RowKit Go.Lib Lex
set_option linter.unusedVariables false
set_option linter.unusedSimpArgs false

def unitsS (X : Plc) (i : Int) (j : Nat) : Int := sumTo (fun s => ((machinesP X i (s : Int)).length : Int)) j
theorem unitsS_three {M : Mdl} {X : Plc} (h : PlcOK M X) {k : Nat} {it : ItemM} (hit : M.items[k]? = some it) : unitsS X ((k : Int) + 1) 3 = ((unitsP X ((k : Int) + 1)).length : Int) := by
 have hs := states_three (l := unitsP X ((k : Int) + 1)) (fun u hu => by
  have := ((h.units hit).2.1 u hu).2
  omega)
 unfold unitsS
 simp only [sumTo, machinesP_len]
 have e0 : ((0 : Nat) : Int) = 0 := rfl
 have e1 : ((0 + 1 : Nat) : Int) = 1 := rfl
 have e2 : ((0 + 1 + 1 : Nat) : Int) = 2 := rfl
 show 0 + ((List.filter (inState ((0 : Nat) : Int)) _).length : Int) + ((List.filter (inState ((1 : Nat) : Int)) _).length : Int) + ((List.filter (inState ((2 : Nat) : Int)) _).length : Int) = _
 have f0 : ((0 : Nat) : Int) = 0 := rfl
 have f1 : ((1 : Nat) : Int) = 1 := rfl
 have f2 : ((2 : Nat) : Int) = 2 := rfl
 rw [f0, f1, f2]
 omega
theorem unitsS_bound {X : Plc} (h : FewK X) (i : Int) : ∀ j : Nat, 0 ≤ unitsS X i j ∧ unitsS X i j ≤ 1000 * (j : Int)
 | 0 => by simp [unitsS, sumTo]
 | j + 1 => by
  have ih := unitsS_bound h i j
  have := machinesP_few h i (j : Int)
  unfold unitsS at *
  simp only [sumTo]
  omega
theorem sum_take {l : List Int} {i : Nat} {x : Int} (h : l[i]? = some x) : (l.take (i + 1)).sum = (l.take i).sum + x := by
 rw [take_snoc h, List.sum_append_int]
 simp
theorem spread_bound {M : Mdl} {by' : Int} {ms : List Int} (hm : ms.length ≤ 1000) : ∀ i : Nat, 0 ≤ ((spreadL M by' ms).take i).sum ∧ ((spreadL M by' ms).take i).sum ≤ 1000 * (i : Int)
 | 0 => by simp
 | i + 1 => by
  have ih := spread_bound (M := M) (by' := by') hm i
  cases hx : (spreadL M by' ms)[i]? with
  | none =>
   have h1 := List.getElem?_eq_none_iff.1 hx
   have e : (spreadL M by' ms).take (i + 1) = (spreadL M by' ms).take i := by rw [List.take_of_length_le (by omega), List.take_of_length_le h1]
   rw [e]; omega
  | some x =>
   rw [sum_take hx]
   have hlt := (List.getElem?_eq_some_iff.1 hx).1
   rw [spreadL_len] at hlt
   rw [spreadL_at hlt] at hx
   injection hx with hx
   have := cntD_le M by' ms ((i : Int) + 1)
   omega
theorem dark_le (M : Mdl) (X : Plc) (i : Int) : darkP M X i ≤ (unitsP X i).length := List.length_filter_le _ _
set_option maxRecDepth 100000 in
set_option maxHeartbeats 12800000 in
theorem law_PlacementSums (w : World) (ht : Tab w) (P : Ptrs) (M : Mdl) (hm : MdlAt w P M) (hr : MdlR M) (p : Option Addr) (c : Nat) (L : List RowU) (hp : PlcAt w p c L) :
  Calls Tryz.prog 9 #[.agg (mcells P M), plcV p c L] w (Ret w fun r _ => r = .bool true) := by
 have HT := Lib.hid ht
 clear ht
 have HM0 := Lib.hid hm
 have HP0 := Lib.hid hp
 have B0 := Cells.new w (mcells P M) 29
 have B1 := Cells.new (w.alloc (.cells (mcells P M) 29)) #[.slice p L.length c] 34
 simp only [World.size_alloc] at B1
 have m0 := mc0 B0.2 _ B1.1
 have m1 := mc1 B0.2 _ B1.1
 have m2 := mc2 B0.2 _ B1.1
 have m3 := mc3 B0.2 _ B1.1
 have m4 := mc4 B0.2 _ B1.1
 have m5 := mc5 B0.2 _ B1.1
 have m6 := mc6 B0.2 _ B1.1
 have m7 := mc7 B0.2 _ B1.1
 have m8 := mc8 B0.2 _ B1.1
 have m9 := mc9 B0.2 _ B1.1
 have m10 := mc10 B0.2 _ B1.1
 have p0 := B1.2.at 0 rfl
 have H := Lib.hid (show _ ∧ _ ∧ _ from ⟨B0.1.trans B1.1, B0.2.grow B1.1, B1.2⟩)
 clear B0 B1 hm hp
 unfold mcells at H m0 m1 m2 m3 m4 m5 m6 m7 m8 m9 m10 ⊢
 unfold plcV
 go_enter Tryz.func9, Tryz.ntmps9
 go_wp2_with fail
 clear m0 m1 m2 m3 m4 m5 m6 m7 m8 m9 m10 p0
 generalize w.heap.size + 1 = bp at H ⊢
 generalize w.heap.size = bm at H ⊢
 generalize (w.alloc _).alloc _ = W at H ⊢
 have G := Lib.hid (show Gr w W from H.out.1)
 have TM := Lib.hid (show Cells W bm (mcells P M) from H.out.2.1)
 have TP := Lib.hid (show Cells W bp #[.slice p L.length c] from H.out.2.2)
 have HM := Lib.hid (HM0.out.grow G.out)
 have HP := Lib.hid (HP0.out.grow G.out)
 clear H
 have HT := Lib.hid (HT.out.grow G.out)
 refine (law20_awake W HT.out).mono ?_
 rintro _ w1 ⟨_, rfl, g1, rfl⟩
 have G := Lib.hid (G.out.trans g1)
 have TM := Lib.hid (TM.out.grow g1)
 have TP := Lib.hid (TP.out.grow g1)
 have HM := Lib.hid (HM.out.grow g1)
 have HP := Lib.hid (HP.out.grow g1)
 have HT := Lib.hid (HT.out.grow g1)
 clear g1
 have m0 := mc0 TM.out _ (Gr.refl _)
 have m1 := mc1 TM.out _ (Gr.refl _)
 have m2 := mc2 TM.out _ (Gr.refl _)
 have m3 := mc3 TM.out _ (Gr.refl _)
 have m4 := mc4 TM.out _ (Gr.refl _)
 have m5 := mc5 TM.out _ (Gr.refl _)
 have m6 := mc6 TM.out _ (Gr.refl _)
 have m7 := mc7 TM.out _ (Gr.refl _)
 have m8 := mc8 TM.out _ (Gr.refl _)
 have m9 := mc9 TM.out _ (Gr.refl _)
 have m10 := mc10 TM.out _ (Gr.refl _)
 have s0 := TP.out.at 0 rfl
 go_wp2_with fail
 clear m0 m1 m2 m3 m4 m5 m6 m7 m8 m9 m10
 clear s0
 refine (law20_large w1 P M p c L HM.out HP.out).mono ?_
 rintro _ w2 ⟨r2, rfl, g1, h⟩
 have G := Lib.hid (G.out.trans g1)
 have TM := Lib.hid (TM.out.grow g1)
 have TP := Lib.hid (TP.out.grow g1)
 have HM := Lib.hid (HM.out.grow g1)
 have HP := Lib.hid (HP.out.grow g1)
 have HT := Lib.hid (HT.out.grow g1)
 clear g1
 rcases h.cases with ⟨rfl, k1⟩ | ⟨rfl, k1⟩
 ·clear h k1
  go_wp2_with fail
  try rw [Exit.noGoto_ret]
  go_ret
  exact ⟨_, rfl, G.out, rfl⟩
 have HFF := Lib.hid (Classical.not_not.1 k1)
 clear h k1
 have HF := Lib.hid HFF.out.1
 have FK := Lib.hid HFF.out.2.k
 have m0 := mc0 TM.out _ (Gr.refl _)
 have m1 := mc1 TM.out _ (Gr.refl _)
 have m2 := mc2 TM.out _ (Gr.refl _)
 have m3 := mc3 TM.out _ (Gr.refl _)
 have m4 := mc4 TM.out _ (Gr.refl _)
 have m5 := mc5 TM.out _ (Gr.refl _)
 have m6 := mc6 TM.out _ (Gr.refl _)
 have m7 := mc7 TM.out _ (Gr.refl _)
 have m8 := mc8 TM.out _ (Gr.refl _)
 have m9 := mc9 TM.out _ (Gr.refl _)
 have m10 := mc10 TM.out _ (Gr.refl _)
 have s0 := TP.out.at 0 rfl
 go_wp2_with fail
 clear m0 m1 m2 m3 m4 m5 m6 m7 m8 m9 m10
 clear s0
 refine (ref_Valid20 w2 P M p c L HM.out HF.out HP.out FK.out).mono ?_
 rintro _ w3 ⟨r3, rfl, g1, h⟩
 have G := Lib.hid (G.out.trans g1)
 have TM := Lib.hid (TM.out.grow g1)
 have TP := Lib.hid (TP.out.grow g1)
 have HM := Lib.hid (HM.out.grow g1)
 have HP := Lib.hid (HP.out.grow g1)
 have HT := Lib.hid (HT.out.grow g1)
 clear g1
 rcases h.cases with ⟨rfl, k1⟩ | ⟨rfl, k1⟩
 rotate_left
 ·clear h k1
  go_wp2_with fail
  try rw [Exit.noGoto_ret]
  go_ret
  exact ⟨_, rfl, G.out, rfl⟩
 have HV := Lib.hid k1
 clear h k1
 have hmz := HV.out.1.1.2.2.2.1
 have hil := HV.out.1.2.1
 go_wp2_with fail
 go_loopw [5, 7] (fun v i w9 => ∃ k : Nat, v = .int .i64 (sumTo (fun i => loadN M (usOf L) ((i : Int) + 1) M.items.length) k) ∧ i = .int .i64 ((k : Int) + 1) ∧ k ≤ M.machs.length ∧ Gr w3 w9) (fun _ i _ => M.machs.length + 1 - (RowKit.intOf i).toNat)
 case atStart => exact ⟨0, rfl, rfl, Nat.zero_le _, Gr.refl _⟩
 case round =>
  obtain ⟨k, rfl, rfl, hk, hg⟩ := hrel
  have GL := Lib.hid hg
  clear hg
  have TMx := Lib.hid (TM.out.grow GL.out)
  have m0 := mc0 TMx.out _ (Gr.refl _)
  have m1 := mc1 TMx.out _ (Gr.refl _)
  have m2 := mc2 TMx.out _ (Gr.refl _)
  have m3 := mc3 TMx.out _ (Gr.refl _)
  have m4 := mc4 TMx.out _ (Gr.refl _)
  have m5 := mc5 TMx.out _ (Gr.refl _)
  have m6 := mc6 TMx.out _ (Gr.refl _)
  have m7 := mc7 TMx.out _ (Gr.refl _)
  have m8 := mc8 TMx.out _ (Gr.refl _)
  have m9 := mc9 TMx.out _ (Gr.refl _)
  have m10 := mc10 TMx.out _ (Gr.refl _)
  have s0 := (TP.out.grow GL.out).at 0 rfl
  by_cases hlt : k < M.machs.length
  ·have hlt' : (k : Int) + 1 ≤ (M.machs.length : Int) := by omega
   go_wp2_with fail
   clear m0 m1 m2 m3 m4 m5 m6 m7 m8 m9 m10
   clear s0 TMx
   refine (plc_Load wr P M p c L _ (HM.out.grow GL.out) HF.out (HP.out.grow GL.out) FK.out).mono ?_
   rintro _ w6 ⟨_, rfl, g6, rfl⟩
   rw [loadP_eq HV.out _ _ (Nat.le_refl _)]
   have hlb := loadN_bound HV.out ((k : Int) + 1) M.items.length
   have hsb := sumTo_bound (f := fun i => loadN M (usOf L) ((i : Int) + 1) M.items.length) (B := 134217728) k (fun i _ => by have := loadN_bound HV.out ((i : Int) + 1) M.items.length; omega)
   have hw2 : IntKind.i64.wrap (sumTo (fun i => loadN M (usOf L) ((i : Int) + 1) M.items.length) k + loadN M (usOf L) ((k : Int) + 1) M.items.length) = sumTo (fun i => loadN M (usOf L) ((i : Int) + 1) M.items.length) k + loadN M (usOf L) ((k : Int) + 1) M.items.length := by rw [IntKind.wrap_i64]; omega
   have hw3 : IntKind.i64.wrap ((k : Int) + 1 + 1) = (k : Int) + 1 + 1 := by rw [IntKind.wrap_i64]; omega
   have GL := Lib.hid (GL.out.trans g6)
   clear g6 hlb hsb
   go_wp2_with fail
   exact ⟨⟨k + 1, rfl, by go_num, by omega, GL.out⟩, by simp [RowKit.intOf]; omega⟩
  ·obtain rfl : k = M.machs.length := by omega
   have hlz : (M.machs.length : Int) < (M.machs.length : Int) + 1 := by omega
   rw [have_wantN HV.out _ (Nat.le_refl _)]
   go_wp2_with fail
   clear m0 m1 m2 m3 m4 m5 m6 m7 m8 m9 m10
   clear s0 TMx
   have HG1 := Lib.hid GL.out
   generalize hwr1 : wr = w4 at HG1 ⊢
   clear hwr1
   go_loopw [6, 8] (fun v i w9 => ∃ k : Nat, v = .int .i64 (wantN M (usOf L) k) ∧ i = .int .i64 ((k : Int) + 1) ∧ k ≤ M.items.length ∧ Gr w3 w9) (fun _ i _ => M.items.length + 1 - (RowKit.intOf i).toNat)
   case atStart => exact ⟨0, rfl, rfl, Nat.zero_le _, HG1.out⟩
   case round =>
    obtain ⟨k, rfl, rfl, hk, hg⟩ := hrel
    have GK := Lib.hid hg
    clear hg
    have m5 := mc5 (TM.out.grow GK.out) _ (Gr.refl _)
    by_cases hlt : k < M.items.length
    ·have hlt' : (k : Int) + 1 ≤ (M.items.length : Int) := by omega
     obtain ⟨it, hit⟩ : ∃ it, M.items[k]? = some it := ⟨_, List.getElem?_eq_getElem hlt⟩
     have HIT := Lib.hid hit
     have HU3 := Lib.hid (unitsS_three HV.out hit)
     have HUL := Lib.hid (HV.out.units hit).2.2
     clear hit
     go_wp2_with fail
     clear m5
     go_loopw [9, 10] (fun v i w9 => ∃ j : Nat, v = .int .i64 (unitsS (usOf L) ((k : Int) + 1) j) ∧ i = .int .i64 (j : Int) ∧ j ≤ 3 ∧ Gr w3 w9) (fun _ i _ => 3 - (RowKit.intOf i).toNat)
     case atStart => exact ⟨0, rfl, rfl, Nat.zero_le _, GK.out⟩
     case round =>
      obtain ⟨j, rfl, rfl, hj, hg⟩ := hrel
      have GJ := Lib.hid hg
      clear hg
      by_cases hj3 : j < 3
      ·have hj3' : (j : Int) ≤ 2 := by omega
       have s0 := (TP.out.grow GJ.out).at 0 rfl
       go_wp2_with fail
       clear s0
       refine (plc_Machines wr p c L _ _ (HP.out.grow GJ.out) FK.out).mono ?_
       rintro _ w6 ⟨r6, rfl, g6, h6⟩
       have hub := unitsS_bound FK.out ((k : Int) + 1) j
       have hmf := machinesP_few FK.out ((k : Int) + 1) (j : Int)
       obtain ⟨p6, c6, hv6, _, _⟩ := h6.read.parts
       obtain ⟨n6, hn6⟩ : ∃ n, (machinesP (usOf L) ((k : Int) + 1) (j : Int)).length = n := ⟨_, rfl⟩
       have HST := Lib.hid (show unitsS (usOf L) ((k : Int) + 1) (j + 1) = unitsS (usOf L) ((k : Int) + 1) j + (n6 : Int) from by rw [← hn6]; rfl)
       rw [hn6] at hv6 hmf
       subst hv6
       have hw2 : IntKind.i64.wrap (unitsS (usOf L) ((k : Int) + 1) j + (n6 : Int)) = unitsS (usOf L) ((k : Int) + 1) j + (n6 : Int) := by rw [IntKind.wrap_i64]; omega
       have hw3 : IntKind.i64.wrap ((j : Int) + 1) = (j : Int) + 1 := by rw [IntKind.wrap_i64]; omega
       have GJ := Lib.hid (GJ.out.trans g6)
       clear g6 h6 hn6 hub
       go_wp2_with fail
       exact ⟨⟨j + 1, by rw [HST.out], by go_num, by omega, GJ.out⟩, by simp [RowKit.intOf]; omega⟩
      ·obtain rfl : j = 3 := by omega
       rw [HU3.out]
       obtain ⟨n, hn⟩ : ∃ n, (unitsP (usOf L) ((k : Int) + 1)).length = n := ⟨_, rfl⟩
       rw [hn]
       have HN := Lib.hid hn
       have hn16 : n ≤ 16 := by rw [← hn]; exact HUL.out
       have hlb := (HV.out.1.2.2.2.2.1 it (List.mem_of_getElem? HIT.out)).2.2.1
       have hmb := mul_bnd (show (0 : Int) ≤ (n : Int) by omega) (show (n : Int) ≤ 16 by omega) hlb.1 hlb.2
       have hwb := wantN_bound HV.out k
       have HWS := Lib.hid (show wantN M (usOf L) (k + 1) = wantN M (usOf L) k + (n : Int) * it.load from by rw [wantN_step HIT.out, hn])
       have hw1 : IntKind.i64.wrap ((n : Int) * it.load) = (n : Int) * it.load := by rw [IntKind.wrap_i64]; omega
       have hw2 : IntKind.i64.wrap (wantN M (usOf L) k + (n : Int) * it.load) = wantN M (usOf L) k + (n : Int) * it.load := by rw [IntKind.wrap_i64]; omega
       have hwk : IntKind.i64.wrap ((k : Int) + 1 - 1) = (k : Int) := by rw [IntKind.wrap_i64]; omega
       have hlt'' : (k : Int) < (M.items.length : Int) := by omega
       obtain ⟨b, o, it', hpi, hit', hci⟩ := item_at (HM.out.grow GJ.out).items rfl hlt
       obtain rfl : it = it' := Option.some.inj (HIT.out.symm.trans hit')
       have y3 := (hci _ (Gr.refl _)).2.2.2.1
       have TMx := Lib.hid (TM.out.grow GJ.out)
       have m0 := mc0 TMx.out _ (Gr.refl _)
       have m1 := mc1 TMx.out _ (Gr.refl _)
       have m2 := mc2 TMx.out _ (Gr.refl _)
       have m3 := mc3 TMx.out _ (Gr.refl _)
       have m4 := mc4 TMx.out _ (Gr.refl _)
       have m5 := mc5 TMx.out _ (Gr.refl _)
       have m6 := mc6 TMx.out _ (Gr.refl _)
       have m7 := mc7 TMx.out _ (Gr.refl _)
       have m8 := mc8 TMx.out _ (Gr.refl _)
       have m9 := mc9 TMx.out _ (Gr.refl _)
       have m10 := mc10 TMx.out _ (Gr.refl _)
       have s0 := (TP.out.grow GJ.out).at 0 rfl
       rw [hpi] at m5
       have HPI := Lib.hid hpi
       clear hit' hci hpi hmb hwb hn hlb
       go_wp2_with fail
       clear m0 m1 m2 m3 m4 m5 m6 m7 m8 m9 m10
       clear y3 TMx s0
       have hcall := plc_Dark wr P M p c L ((k : Int) + 1) (HM.out.grow GJ.out) HF.out (HP.out.grow GJ.out) FK.out
       unfold mcells at hcall
       rw [HPI.out] at hcall
       refine hcall.mono ?_
       clear hcall
       rintro _ w7 ⟨_, rfl, g7, rfl⟩
       have GJ := Lib.hid (GJ.out.trans g7)
       have hdl := dark_le M (usOf L) ((k : Int) + 1)
       rw [HN.out] at hdl
       obtain ⟨dk, hdk⟩ : ∃ d, darkP M (usOf L) ((k : Int) + 1) = d := ⟨_, rfl⟩
       rw [hdk] at hdl ⊢
       have hd0 : (0 : Int) ≤ (dk : Int) := by omega
       have hd1 : (dk : Int) ≤ (n : Int) := by omega
       clear hdk g7 hdl
       go_wp2_with fail
       generalize hwr2 : w7 = w8 at GJ ⊢
       clear hwr2
       go_loopw [12] (fun i w9 => ∃ y : Nat, i = .int .i64 ((y : Int) + 1) ∧ y ≤ 4 ∧ Gr w3 w9) (fun i _ => 5 - (RowKit.intOf i).toNat)
       case atStart => exact ⟨0, rfl, Nat.zero_le _, GJ.out⟩
       case round =>
        obtain ⟨y, rfl, hy, hg⟩ := hrel
        have GY := Lib.hid hg
        clear hg
        by_cases hy4 : y < 4
        ·have hy4' : (y : Int) + 1 ≤ 4 := by omega
         have TMx := Lib.hid (TM.out.grow GY.out)
         have m0 := mc0 TMx.out _ (Gr.refl _)
         have m1 := mc1 TMx.out _ (Gr.refl _)
         have m2 := mc2 TMx.out _ (Gr.refl _)
         have m3 := mc3 TMx.out _ (Gr.refl _)
         have m4 := mc4 TMx.out _ (Gr.refl _)
         have m5 := mc5 TMx.out _ (Gr.refl _)
         have m6 := mc6 TMx.out _ (Gr.refl _)
         have m7 := mc7 TMx.out _ (Gr.refl _)
         have m8 := mc8 TMx.out _ (Gr.refl _)
         have m9 := mc9 TMx.out _ (Gr.refl _)
         have m10 := mc10 TMx.out _ (Gr.refl _)
         have s0 := (TP.out.grow GY.out).at 0 rfl
         go_wp2_with fail
         clear m0 m1 m2 m3 m4 m5 m6 m7 m8 m9 m10
         clear s0 TMx
         refine (plc_Spread wr P M p c L ((k : Int) + 1) ((y : Int) + 1) (HM.out.grow GY.out) HF.out (HP.out.grow GY.out) FK.out).mono ?_
         rintro _ w10 ⟨r10, rfl, g10, h10⟩
         have GY := Lib.hid (GY.out.trans g10)
         have hsum := spread_sum HV.out.1 (by' := (y : Int) + 1) ⟨by omega, by omega⟩ (machinesP_ok HV.out HIT.out 0)
         have hmf := machinesP_few FK.out ((k : Int) + 1) 0
         have hsl := spreadL_len M ((y : Int) + 1) (machinesP (usOf L) ((k : Int) + 1) 0)
         have hdl := doms_le HF.out ((y : Int) + 1)
         have HSB := Lib.hid (spread_bound (M := M) (by' := (y : Int) + 1) hmf)
         obtain ⟨sl, hsl2⟩ : ∃ l, spreadL M ((y : Int) + 1) (machinesP (usOf L) ((k : Int) + 1) 0) = l := ⟨_, rfl⟩
         rw [hsl2] at h10 hsum hsl HSB
         have HSUM := Lib.hid hsum
         have HS := Lib.hid h10
         have hsll : sl.length ≤ 24 := by rw [hsl]; omega
         obtain ⟨ps, cs, rfl, _, _⟩ := h10.parts
         clear h10 g10 hsum hsl hsl2 hdl
         go_wp2_with fail
         go_loopw [13, 15] (fun v i w9 => ∃ z : Nat, v = .int .i64 ((sl.take z).sum) ∧ i = .int .i64 (z : Int) ∧ z ≤ sl.length ∧ w9 = w10) (fun _ i _ => sl.length - (RowKit.intOf i).toNat)
         case atStart => exact ⟨0, rfl, rfl, Nat.zero_le _, rfl⟩
         case round =>
          obtain ⟨z, rfl, rfl, hz, rfl⟩ := hrel
          by_cases hzl : z < sl.length
          ·have hzl' : (z : Int) < (sl.length : Int) := by omega
           obtain ⟨bs, os, x, rfl, hx, hcx⟩ := int_at HS.out rfl hzl
           have c0 := hcx _ (Gr.refl _)
           have hb1 := HSB.out (z + 1)
           have hst := sum_take hx
           have HST := Lib.hid hst
           rw [hst] at hb1
           have hw2 : IntKind.i64.wrap ((sl.take z).sum + x) = (sl.take z).sum + x := by rw [IntKind.wrap_i64]; omega
           have hw3 : IntKind.i64.wrap ((z : Int) + 1) = (z : Int) + 1 := by rw [IntKind.wrap_i64]; omega
           clear hx hcx hst hb1
           go_wp2_with fail
           exact ⟨⟨z + 1, by rw [HST.out], by go_num, by omega, by first | rfl | trivial⟩, by simp [RowKit.intOf]; omega⟩
          ·obtain rfl : z = sl.length := by omega
           rw [List.take_length, HSUM.out]
           have s0 := (TP.out.grow GY.out).at 0 rfl
           obtain ⟨n6, hn6⟩ : ∃ n, (machinesP (usOf L) ((k : Int) + 1) 0).length = n := ⟨_, rfl⟩
           rw [hn6]
           have HN6 := Lib.hid hn6
           clear hn6
           go_wp2_with fail
           clear s0
           refine (plc_Machines wr p c L _ _ (HP.out.grow GY.out) FK.out).mono ?_
           rintro _ w11 ⟨r11, rfl, g11, h11⟩
           have GY := Lib.hid (GY.out.trans g11)
           obtain ⟨p6, c6, hv6, _, _⟩ := h11.read.parts
           rw [HN6.out] at hv6
           subst hv6
           have hnn : ((n6 : Int) != (n6 : Int)) = false := by simp
           have hw3 : IntKind.i64.wrap ((y : Int) + 1 + 1) = (y : Int) + 1 + 1 := by rw [IntKind.wrap_i64]; omega
           clear h11 g11
           go_wp2_with fail
           go_simp
           exact ⟨⟨y + 1, by omega, by omega, GY.out⟩, by simp [RowKit.intOf]; omega⟩
        ·obtain rfl : y = 4 := by omega
         have hw3 : IntKind.i64.wrap ((k : Int) + 1 + 1) = (k : Int) + 1 + 1 := by rw [IntKind.wrap_i64]; omega
         go_wp2_with fail
         exact ⟨⟨k + 1, by rw [HWS.out], by go_num, by omega, GY.out⟩, by simp [RowKit.intOf]; omega⟩
    ·obtain rfl : k = M.items.length := by omega
     have hlz : (M.items.length : Int) < (M.items.length : Int) + 1 := by omega
     have hee : (wantN M (usOf L) M.items.length == wantN M (usOf L) M.items.length) = true := by simp
     go_wp2_with fail
     go_ret
     exact ⟨_, rfl, G.out.trans GK.out, by first | rfl | simp⟩
end Go.Proofs.YtchpbaaabnkkkaaGreatDoor

/-
 The law PlacementSingle.
-/
import Derived.Test.YtchpbaaabnkkkaaGreatDoorPmI
namespace Go.Proofs.YtchpbaaabnkkkaaGreatDoor
open Go.RowKit Go.Lib Lex
set_option linter.unusedVariables false
set_option linter.unusedSimpArgs false

theorem single_eq {X : Plc} (h : RiseP X) {i k s : Int} (hi : InP X i) : stateP (putP X i k s) i k = (s, true) ∧ stateP (dropP (putP X i k s) i k) i k = (0, false) := by
 rw [putP_chg, dropP_chg]
 refine ⟨?_, ?_⟩
 ·rw [stateP_chg h, if_pos ⟨rfl, rfl, hi⟩]
 ·rw [stateP_chg (h.chg i k (some s)), if_pos ⟨rfl, rfl, by unfold InP chgP; rw [updP_len]; exact hi⟩]
theorem single_ne {X : Plc} (h : RiseP X) {i k s j n : Int} (hne : ¬ (j = i ∧ n = k)) : stateP (putP X i k s) j n = stateP X j n ∧ stateP (dropP (putP X i k s) i k) j n = stateP X j n := by
 rw [putP_chg, dropP_chg]
 have h1 : stateP (chgP X i k (some s)) j n = stateP X j n := by rw [stateP_chg h, if_neg (fun q => hne ⟨q.1, q.2.1⟩)]
 exact ⟨h1, by rw [stateP_chg (h.chg i k (some s)), if_neg (fun q => hne ⟨q.1, q.2.1⟩), h1]⟩
set_option maxRecDepth 100000 in
set_option maxHeartbeats 12800000 in
theorem law_PlacementSingle (w : World) (ht : Tab w) (P : Ptrs) (M : Mdl) (hm : MdlAt w P M) (hr : MdlR M) (p : Option Addr) (c : Nat) (L : List RowU) (hp : PlcAt w p c L) (qa : Nat) (ja : qa < 256) (qb : Nat) (jb : qb < 256) (qs : Nat) (js : qs < 256) :
  Calls Tryz.prog 7 #[.agg (mcells P M), plcV p c L, .int .u8 (qa : Int), .int .u8 (qb : Int), .int .u8 (qs : Int)] w (Ret w fun r _ => r = .bool true) := by
 have HT := Lib.hid ht
 clear ht
 have HM0 := Lib.hid hm
 have HP0 := Lib.hid hp
 have B0 := Cells.new w (mcells P M) 29
 have B1 := Cells.new (w.alloc (.cells (mcells P M) 29)) #[.slice p L.length c] 34
 simp only [World.size_alloc] at B1
 have m0 := mc0 B0.2 _ B1.1
 have m1 := mc1 B0.2 _ B1.1
 have m2 := mc2 B0.2 _ B1.1
 have m3 := mc3 B0.2 _ B1.1
 have m4 := mc4 B0.2 _ B1.1
 have m5 := mc5 B0.2 _ B1.1
 have m6 := mc6 B0.2 _ B1.1
 have m7 := mc7 B0.2 _ B1.1
 have m8 := mc8 B0.2 _ B1.1
 have m9 := mc9 B0.2 _ B1.1
 have m10 := mc10 B0.2 _ B1.1
 have p0 := B1.2.at 0 rfl
 have H := Lib.hid (show _ ∧ _ ∧ _ from ⟨B0.1.trans B1.1, B0.2.grow B1.1, B1.2⟩)
 clear B0 B1 hm hp
 unfold mcells at H m0 m1 m2 m3 m4 m5 m6 m7 m8 m9 m10 ⊢
 unfold plcV
 go_enter Tryz.func7, Tryz.ntmps7
 go_wp2_with fail
 clear m0 m1 m2 m3 m4 m5 m6 m7 m8 m9 m10 p0
 generalize w.heap.size + 1 = bp at H ⊢
 generalize w.heap.size = bm at H ⊢
 generalize (w.alloc _).alloc _ = W at H ⊢
 have G := Lib.hid (show Gr w W from H.out.1)
 have TM := Lib.hid (show Cells W bm (mcells P M) from H.out.2.1)
 have TP := Lib.hid (show Cells W bp #[.slice p L.length c] from H.out.2.2)
 have HM := Lib.hid (HM0.out.grow G.out)
 have HP := Lib.hid (HP0.out.grow G.out)
 clear H
 have HT := Lib.hid (HT.out.grow G.out)
 refine (law20_awake W HT.out).mono ?_
 rintro _ w1 ⟨_, rfl, g1, rfl⟩
 have G := Lib.hid (G.out.trans g1)
 have TM := Lib.hid (TM.out.grow g1)
 have TP := Lib.hid (TP.out.grow g1)
 have HM := Lib.hid (HM.out.grow g1)
 have HP := Lib.hid (HP.out.grow g1)
 have HT := Lib.hid (HT.out.grow g1)
 clear g1
 have m0 := mc0 TM.out _ (Gr.refl _)
 have m1 := mc1 TM.out _ (Gr.refl _)
 have m2 := mc2 TM.out _ (Gr.refl _)
 have m3 := mc3 TM.out _ (Gr.refl _)
 have m4 := mc4 TM.out _ (Gr.refl _)
 have m5 := mc5 TM.out _ (Gr.refl _)
 have m6 := mc6 TM.out _ (Gr.refl _)
 have m7 := mc7 TM.out _ (Gr.refl _)
 have m8 := mc8 TM.out _ (Gr.refl _)
 have m9 := mc9 TM.out _ (Gr.refl _)
 have m10 := mc10 TM.out _ (Gr.refl _)
 have s0 := TP.out.at 0 rfl
 go_wp2_with fail
 clear m0 m1 m2 m3 m4 m5 m6 m7 m8 m9 m10
 clear s0
 refine (law20_large w1 P M p c L HM.out HP.out).mono ?_
 rintro _ w2 ⟨r2, rfl, g1, h⟩
 have G := Lib.hid (G.out.trans g1)
 have TM := Lib.hid (TM.out.grow g1)
 have TP := Lib.hid (TP.out.grow g1)
 have HM := Lib.hid (HM.out.grow g1)
 have HP := Lib.hid (HP.out.grow g1)
 have HT := Lib.hid (HT.out.grow g1)
 clear g1
 rcases h.cases with ⟨rfl, k1⟩ | ⟨rfl, k1⟩
 ·clear h k1
  go_wp2_with fail
  try rw [Exit.noGoto_ret]
  go_ret
  exact ⟨_, rfl, G.out, rfl⟩
 have HFF := Lib.hid (Classical.not_not.1 k1)
 clear h k1
 have HF := Lib.hid HFF.out.1
 have FK := Lib.hid HFF.out.2.k
 have F9 := Lib.hid (show ∀ l ∈ usOf L, l.length ≤ 900 from fun l hl => by have := HFF.out.2.2 l hl; omega)
 have m0 := mc0 TM.out _ (Gr.refl _)
 have m1 := mc1 TM.out _ (Gr.refl _)
 have m2 := mc2 TM.out _ (Gr.refl _)
 have m3 := mc3 TM.out _ (Gr.refl _)
 have m4 := mc4 TM.out _ (Gr.refl _)
 have m5 := mc5 TM.out _ (Gr.refl _)
 have m6 := mc6 TM.out _ (Gr.refl _)
 have m7 := mc7 TM.out _ (Gr.refl _)
 have m8 := mc8 TM.out _ (Gr.refl _)
 have m9 := mc9 TM.out _ (Gr.refl _)
 have m10 := mc10 TM.out _ (Gr.refl _)
 have s0 := TP.out.at 0 rfl
 go_wp2_with fail
 clear m0 m1 m2 m3 m4 m5 m6 m7 m8 m9 m10
 clear s0
 refine (ref_Valid20 w2 P M p c L HM.out HF.out HP.out FK.out).mono ?_
 rintro _ w3 ⟨r3, rfl, g1, h⟩
 have G := Lib.hid (G.out.trans g1)
 have TM := Lib.hid (TM.out.grow g1)
 have TP := Lib.hid (TP.out.grow g1)
 have HM := Lib.hid (HM.out.grow g1)
 have HP := Lib.hid (HP.out.grow g1)
 have HT := Lib.hid (HT.out.grow g1)
 clear g1
 rcases h.cases with ⟨rfl, k1⟩ | ⟨rfl, k1⟩
 rotate_left
 ·clear h k1
  go_wp2_with fail
  try rw [Exit.noGoto_ret]
  go_ret
  exact ⟨_, rfl, G.out, rfl⟩
 have HV := Lib.hid k1
 clear h k1
 have m5 := mc5 TM.out _ (Gr.refl _)
 by_cases h0 : M.items.length = 0
 ·have h0b : ((M.items.length : Int) == 0) = true := by simp [h0]
  go_wp2_with fail
  try rw [Exit.noGoto_ret]
  go_ret
  exact ⟨_, rfl, G.out, rfl⟩
 have h0b : ((M.items.length : Int) == 0) = false := by simp; intro h; exact h0 (by rw [h]; rfl)
 have hmz := HV.out.1.1.2.2.2.1.1
 obtain ⟨i0, hi0⟩ : ∃ i, qa % M.items.length = i := ⟨_, rfl⟩
 obtain ⟨k0, hk0⟩ : ∃ i, qb % M.machs.length = i := ⟨_, rfl⟩
 obtain ⟨s1, hs1⟩ : ∃ i, qs % 3 = i := ⟨_, rfl⟩
 have HI0 := Lib.hid (show i0 < M.items.length from by rw [← hi0]; exact Nat.mod_lt _ (by omega))
 have HK0 := Lib.hid (show k0 < M.machs.length from by rw [← hk0]; exact Nat.mod_lt _ (by omega))
 have HS1 := Lib.hid (show s1 < 3 from by rw [← hs1]; exact Nat.mod_lt _ (by decide))
 go_wp2_with fail
 have g0 : Gr w3 w3.drew := (Gr.refl _).drew
 have hfew := HF.out.1
 have hwa : IntKind.i64.wrap (qa : Int) = (qa : Int) := by rw [IntKind.wrap_i64]; omega
 have hwb : IntKind.i64.wrap (qb : Int) = (qb : Int) := by rw [IntKind.wrap_i64]; omega
 have hra : (qa : Int).tmod (M.items.length : Int) = (i0 : Int) := by rw [← hi0]; exact (Int.ofNat_tmod qa M.items.length).symm
 have hrb : (qb : Int).tmod (M.machs.length : Int) = (k0 : Int) := by rw [← hk0]; exact (Int.ofNat_tmod qb M.machs.length).symm
 have hrs : (qs : Int).tmod 3 = (s1 : Int) := by rw [← hs1]; exact (Int.ofNat_tmod qs 3).symm
 have hws : IntKind.i64.wrap (s1 : Int) = (s1 : Int) := by rw [IntKind.wrap_i64]; have := HS1.out; omega
 have hwi : IntKind.i64.wrap (1 + (i0 : Int)) = 1 + (i0 : Int) := by rw [IntKind.wrap_i64]; have := HI0.out; omega
 have hwk : IntKind.i64.wrap (1 + (k0 : Int)) = 1 + (k0 : Int) := by rw [IntKind.wrap_i64]; have := HK0.out; omega
 have hm0 : ¬ M.machs.length = 0 := by omega
 clear m5 hi0 hk0 hs1
 have m5 := mc5 TM.out
 have m3 := mc3 TM.out
 refine wp_region_fast [(0, true), (1, true), (2, true), (3, true), (4, true), (5, true), (6, true), (7, true), (8, true), (9, true), (10, true), (11, true), (12, true), (13, true), (14, true), (15, true), (16, true), (17, true), (18, true), (19, true)] (by kernel_rfl) (by kernel_rfl) rfl (by kernel_rfl) (fun _ _ d _ _ h => by cases d <;> exact h) ?_
 repeat (refine wpE_readB (v := ?_) g0 rfl rfl (fun w' hg => ?_) (fun K hK => ?_); rotate_left; (go_simp; rfl); go_simp; refine hK _ _ ?_; clear hK K)
 refine wpE_nil ?_
 have G := Lib.hid (G.out.trans g0)
 have TM := Lib.hid (TM.out.grow g0)
 have TP := Lib.hid (TP.out.grow g0)
 have HM := Lib.hid (HM.out.grow g0)
 have HP := Lib.hid (HP.out.grow g0)
 have HT := Lib.hid (HT.out.grow g0)
 clear m5 m3 g0 hwa hwb hra hrb hrs hws
 obtain ⟨it, hit⟩ : ∃ it, M.items[i0]? = some it := ⟨_, List.getElem?_eq_getElem HI0.out⟩
 have HIT := Lib.hid hit
 clear hit
 generalize w3.drew = w3 at G TM TP HM HP HT ⊢
 have s0 := TP.out.at 0 rfl
 by_cases hs2 : s1 = 2
 ·subst hs2
  have m5 := mc5 TM.out _ (Gr.refl _)
  obtain ⟨bi, oi, it', hpi, hit', hci⟩ := item_at HM.out.items rfl HI0.out
  obtain rfl : it = it' := Option.some.inj (HIT.out.symm.trans hit')
  rw [hpi] at m5
  have y1 := (hci _ (Gr.refl _)).2.1
  have hil : (i0 : Int) < (M.items.length : Int) := by have := HI0.out; omega
  have hwj : IntKind.i64.wrap (1 + (i0 : Int) - 1) = (i0 : Int) := by rw [IntKind.wrap_i64]; have := HI0.out; omega
  obtain ⟨t, ht⟩ : ∃ t, (it.kind != 2) = t := ⟨_, rfl⟩
  have HTK := Lib.hid ht
  clear hit' hci hpi
  cases t
  ·go_wp2_with fail
   clear m5 y1 s0
   have HOKQ := Lib.hid (show PlcOK M (putP (usOf L) (1 + (i0 : Int)) (1 + (k0 : Int)) (2)) from by
    rw [putP_chg]
    exact HV.out.chg (k := i0) (it := it) (by omega) HIT.out (fun s hs => by
     injection hs with hs
     subst hs
     exact ⟨⟨by show 1 ≤ 1 + (k0 : Int); omega, by show 1 + (k0 : Int) ≤ _; have := HK0.out; omega⟩, .inr (.inr ⟨rfl, by have := HTK.out; simpa using this⟩)⟩))
   have HOKD := Lib.hid (show PlcOK M (dropP (putP (usOf L) (1 + (i0 : Int)) (1 + (k0 : Int)) (2)) (1 + (i0 : Int)) (1 + (k0 : Int))) from by
    rw [dropP_chg]
    exact HOKQ.out.chg (k := i0) (it := it) (by omega) HIT.out (fun s hs => by cases hs))
   refine (plc_Put w3 p c L (1 + (i0 : Int)) (1 + (k0 : Int)) (2) HP.out FK.out F9.out).mono ?_
   rintro _ w4 ⟨_, rfl, g1, pq, cq, Lq, rfl, hq, huq⟩
   have HQ := Lib.hid hq.at'
   have UQ := Lib.hid huq
   have FQ := Lib.hid (show FewK (usOf Lq) from by rw [huq]; exact HOKQ.out.fewP.k)
   have G := Lib.hid (G.out.trans g1)
   have TM := Lib.hid (TM.out.grow g1)
   have TP := Lib.hid (TP.out.grow g1)
   have HM := Lib.hid (HM.out.grow g1)
   have HP := Lib.hid (HP.out.grow g1)
   have HT := Lib.hid (HT.out.grow g1)
   clear g1
   have B := Cells.new w4 #[.slice pq Lq.length cq] 34
   have TQ := Lib.hid B.2
   have g1 := B.1
   have G := Lib.hid (G.out.trans g1)
   have TM := Lib.hid (TM.out.grow g1)
   have TP := Lib.hid (TP.out.grow g1)
   have HM := Lib.hid (HM.out.grow g1)
   have HP := Lib.hid (HP.out.grow g1)
   have HT := Lib.hid (HT.out.grow g1)
   have HQ := Lib.hid (HQ.out.grow g1)
   clear g1
   have q0 := TQ.out.at 0 rfl
   clear hq huq B
   unfold plcV
   go_wp2_with fail
   clear q0
   generalize w4.heap.size = bq at TQ ⊢
   generalize w4.alloc _ = w5 at TP TQ HP HQ HM HT TM G ⊢
   refine (plc_Drop w5 pq cq Lq (1 + (i0 : Int)) (1 + (k0 : Int)) HQ.out FQ.out).mono ?_
   rintro _ w6 ⟨_, rfl, g1, pd, cd, Ld, rfl, hd, hud⟩
   have HD := Lib.hid hd.at'
   have UD := Lib.hid (show usOf Ld = dropP (putP (usOf L) (1 + (i0 : Int)) (1 + (k0 : Int)) (2)) (1 + (i0 : Int)) (1 + (k0 : Int)) from by rw [hud, UQ.out])
   have FD := Lib.hid (show FewK (usOf Ld) from by rw [UD.out]; exact HOKD.out.fewP.k)
   have G := Lib.hid (G.out.trans g1)
   have TM := Lib.hid (TM.out.grow g1)
   have TP := Lib.hid (TP.out.grow g1)
   have HM := Lib.hid (HM.out.grow g1)
   have HP := Lib.hid (HP.out.grow g1)
   have HT := Lib.hid (HT.out.grow g1)
   have HQ := Lib.hid (HQ.out.grow g1)
   have TQ := Lib.hid (TQ.out.grow g1)
   clear g1
   have B := Cells.new w6 #[.slice pd Ld.length cd] 34
   have TD := Lib.hid B.2
   have g1 := B.1
   have G := Lib.hid (G.out.trans g1)
   have TM := Lib.hid (TM.out.grow g1)
   have TP := Lib.hid (TP.out.grow g1)
   have HM := Lib.hid (HM.out.grow g1)
   have HP := Lib.hid (HP.out.grow g1)
   have HT := Lib.hid (HT.out.grow g1)
   have HQ := Lib.hid (HQ.out.grow g1)
   have TQ := Lib.hid (TQ.out.grow g1)
   have HD := Lib.hid (HD.out.grow g1)
   clear g1
   have m0 := mc0 TM.out _ (Gr.refl _)
   have m1 := mc1 TM.out _ (Gr.refl _)
   have m2 := mc2 TM.out _ (Gr.refl _)
   have m3 := mc3 TM.out _ (Gr.refl _)
   have m4 := mc4 TM.out _ (Gr.refl _)
   have m5 := mc5 TM.out _ (Gr.refl _)
   have m6 := mc6 TM.out _ (Gr.refl _)
   have m7 := mc7 TM.out _ (Gr.refl _)
   have m8 := mc8 TM.out _ (Gr.refl _)
   have m9 := mc9 TM.out _ (Gr.refl _)
   have m10 := mc10 TM.out _ (Gr.refl _)
   have q0 := TQ.out.at 0 rfl
   clear hd hud B
   unfold plcV
   go_wp2_with fail
   clear m0 m1 m2 m3 m4 m5 m6 m7 m8 m9 m10
   clear q0
   generalize w6.heap.size = bd at TD ⊢
   generalize w6.alloc _ = w7 at TP TQ TD HP HQ HD HM HT TM G ⊢
   refine (plc_Valid w7 P M pq cq Lq HM.out HF.out HT.out HQ.out FQ.out).mono ?_
   rintro _ w8 ⟨r8, rfl, g1, h8⟩
   rcases h8.cases with ⟨rfl, _⟩ | ⟨_, k1⟩
   rotate_left
   ·exact absurd (by rw [UQ.out]; exact HOKQ.out) k1
   clear h8
   have G := Lib.hid (G.out.trans g1)
   have TM := Lib.hid (TM.out.grow g1)
   have TP := Lib.hid (TP.out.grow g1)
   have HM := Lib.hid (HM.out.grow g1)
   have HP := Lib.hid (HP.out.grow g1)
   have HT := Lib.hid (HT.out.grow g1)
   have HQ := Lib.hid (HQ.out.grow g1)
   have TQ := Lib.hid (TQ.out.grow g1)
   have HD := Lib.hid (HD.out.grow g1)
   have TD := Lib.hid (TD.out.grow g1)
   clear g1
   have m0 := mc0 TM.out _ (Gr.refl _)
   have m1 := mc1 TM.out _ (Gr.refl _)
   have m2 := mc2 TM.out _ (Gr.refl _)
   have m3 := mc3 TM.out _ (Gr.refl _)
   have m4 := mc4 TM.out _ (Gr.refl _)
   have m5 := mc5 TM.out _ (Gr.refl _)
   have m6 := mc6 TM.out _ (Gr.refl _)
   have m7 := mc7 TM.out _ (Gr.refl _)
   have m8 := mc8 TM.out _ (Gr.refl _)
   have m9 := mc9 TM.out _ (Gr.refl _)
   have m10 := mc10 TM.out _ (Gr.refl _)
   have q0 := TD.out.at 0 rfl
   go_wp2_with fail
   clear m0 m1 m2 m3 m4 m5 m6 m7 m8 m9 m10
   clear q0
   refine (plc_Valid w8 P M pd cd Ld HM.out HF.out HT.out HD.out FD.out).mono ?_
   rintro _ w9 ⟨r9, rfl, g1, h9⟩
   rcases h9.cases with ⟨rfl, _⟩ | ⟨_, k1⟩
   rotate_left
   ·exact absurd (by rw [UD.out]; exact HOKD.out) k1
   clear h9
   have G := Lib.hid (G.out.trans g1)
   have TM := Lib.hid (TM.out.grow g1)
   have TP := Lib.hid (TP.out.grow g1)
   have HM := Lib.hid (HM.out.grow g1)
   have HP := Lib.hid (HP.out.grow g1)
   have HT := Lib.hid (HT.out.grow g1)
   have HQ := Lib.hid (HQ.out.grow g1)
   have TQ := Lib.hid (TQ.out.grow g1)
   have HD := Lib.hid (HD.out.grow g1)
   have TD := Lib.hid (TD.out.grow g1)
   clear g1
   go_wp2_with fail
   go_loopw [16] (fun i w' => ∃ x : Nat, i = .int .i64 ((x : Int) + 1) ∧ x ≤ M.items.length ∧ Gr w9 w') (fun i _ => M.items.length + 1 - (RowKit.intOf i).toNat)
   case atStart => exact ⟨0, rfl, Nat.zero_le _, Gr.refl _⟩
   case round =>
    obtain ⟨x, rfl, hx, hg⟩ := hrel
    have GL := Lib.hid hg
    clear hg
    have m5 := mc5 (TM.out.grow GL.out) _ (Gr.refl _)
    by_cases hlt : x < M.items.length
    ·have hlt' : (x : Int) + 1 ≤ (M.items.length : Int) := by omega
     go_wp2_with fail
     clear m5
     go_loopw [17] (fun i w' => ∃ y : Nat, i = .int .i64 ((y : Int) + 1) ∧ y ≤ M.machs.length ∧ Gr w9 w') (fun i _ => M.machs.length + 1 - (RowKit.intOf i).toNat)
     case atStart => exact ⟨0, rfl, Nat.zero_le _, GL.out⟩
     case round =>
      obtain ⟨y, rfl, hy, hg⟩ := hrel
      have GN := Lib.hid hg
      clear hg
      have m3 := mc3 (TM.out.grow GN.out) _ (Gr.refl _)
      by_cases hly : y < M.machs.length
      ·have hly' : (y : Int) + 1 ≤ (M.machs.length : Int) := by omega
       have s0 := (TP.out.grow GN.out).at 0 rfl
       go_wp2_with fail
       clear m3 s0
       refine (plc_State wr p c L _ _ (HP.out.grow GN.out) FK.out).mono ?_
       rintro _ w10 ⟨_, rfl, g10, rfl⟩
       have GN := Lib.hid (GN.out.trans g10)
       obtain ⟨st, hst⟩ : ∃ s, stateP (usOf L) ((x : Int) + 1) ((y : Int) + 1) = s := ⟨_, rfl⟩
       rw [hst]
       have HST := Lib.hid hst
       obtain ⟨a, b⟩ := st
       unfold stateV
       have s0 := (TQ.out.grow GN.out).at 0 rfl
       clear hst g10
       go_wp2_with fail
       clear s0
       refine (plc_State w10 pq cq Lq _ _ (HQ.out.grow GN.out) FQ.out).mono ?_
       rintro _ w11 ⟨_, rfl, g11, rfl⟩
       have GN := Lib.hid (GN.out.trans g11)
       have s0 := (TD.out.grow GN.out).at 0 rfl
       have hx1 : IntKind.i64.wrap ((x : Int) + 1 + 1) = (x : Int) + 1 + 1 := by rw [IntKind.wrap_i64]; have := HF.out.1; omega
       have hy1 : IntKind.i64.wrap ((y : Int) + 1 + 1) = (y : Int) + 1 + 1 := by rw [IntKind.wrap_i64]; have := HF.out.1; omega
       clear g11
       by_cases hxe : (x : Int) + 1 = 1 + (i0 : Int)
       ·have hxb : ((x : Int) + 1 == 1 + (i0 : Int)) = true := by simpa using hxe
        by_cases hye : (y : Int) + 1 = 1 + (k0 : Int)
        ·have hyb : ((y : Int) + 1 == 1 + (k0 : Int)) = true := by simpa using hye
         obtain ⟨e1, e2⟩ := single_eq (s := 2) (k := 1 + (k0 : Int)) HV.out.rise (show InP (usOf L) (1 + (i0 : Int)) from ⟨by omega, by have := HI0.out; have := HV.out.2.1; omega⟩)
         rw [show stateP (usOf Lq) ((x : Int) + 1) ((y : Int) + 1) = (2, true) from by rw [UQ.out, hxe, hye]; exact e1]
         have HE2 := Lib.hid (show stateP (usOf Ld) ((x : Int) + 1) ((y : Int) + 1) = (0, false) from by rw [UD.out, hxe, hye]; exact e2)
         unfold stateV
         clear e1 e2 hxe hye
         go_wp2_with fail
         clear s0
         refine (plc_State w11 pd cd Ld _ _ (HD.out.grow GN.out) FD.out).mono ?_
         rintro _ w12 ⟨_, rfl, g12, rfl⟩
         have GN := Lib.hid (GN.out.trans g12)
         rw [HE2.out]
         unfold stateV
         clear g12
         have hse : (2 != 2) = false := by simp
         go_wp2_with fail
         exact ⟨⟨y + 1, by go_num, by omega, GN.out⟩, by simp [RowKit.intOf]; omega⟩
        ·have hyb : ((y : Int) + 1 == 1 + (k0 : Int)) = false := by simpa using hye
         clear hxe
         obtain ⟨e1, e2⟩ := single_ne (s := 2) (i := 1 + (i0 : Int)) (k := 1 + (k0 : Int)) (j := (x : Int) + 1) (n := (y : Int) + 1) HV.out.rise (fun q => hye q.2)
         rw [show stateP (usOf Lq) ((x : Int) + 1) ((y : Int) + 1) = (a, b) from by rw [UQ.out, e1, HST.out]]
         have HE2 := Lib.hid (show stateP (usOf Ld) ((x : Int) + 1) ((y : Int) + 1) = (a, b) from by rw [UD.out, e2, HST.out])
         unfold stateV
         clear e1 e2
         go_wp2_with fail
         clear s0
         refine (plc_State w11 pd cd Ld _ _ (HD.out.grow GN.out) FD.out).mono ?_
         rintro _ w12 ⟨_, rfl, g12, rfl⟩
         have GN := Lib.hid (GN.out.trans g12)
         rw [HE2.out]
         unfold stateV
         clear g12
         have hae : (a != a) = false := by simp
         have hbe : (b != b) = false := by simp
         go_wp2_with fail
         exact ⟨⟨y + 1, by go_num, by omega, GN.out⟩, by simp [RowKit.intOf]; omega⟩
       ·have hxb : ((x : Int) + 1 == 1 + (i0 : Int)) = false := by simpa using hxe
        obtain ⟨e1, e2⟩ := single_ne (s := 2) (i := 1 + (i0 : Int)) (k := 1 + (k0 : Int)) (j := (x : Int) + 1) (n := (y : Int) + 1) HV.out.rise (fun q => hxe q.1)
        rw [show stateP (usOf Lq) ((x : Int) + 1) ((y : Int) + 1) = (a, b) from by rw [UQ.out, e1, HST.out]]
        have HE2 := Lib.hid (show stateP (usOf Ld) ((x : Int) + 1) ((y : Int) + 1) = (a, b) from by rw [UD.out, e2, HST.out])
        unfold stateV
        clear e1 e2
        go_wp2_with fail
        clear s0
        refine (plc_State w11 pd cd Ld _ _ (HD.out.grow GN.out) FD.out).mono ?_
        rintro _ w12 ⟨_, rfl, g12, rfl⟩
        have GN := Lib.hid (GN.out.trans g12)
        rw [HE2.out]
        unfold stateV
        clear g12
        have hae : (a != a) = false := by simp
        have hbe : (b != b) = false := by simp
        go_wp2_with fail
        exact ⟨⟨y + 1, by go_num, by omega, GN.out⟩, by simp [RowKit.intOf]; omega⟩
      ·obtain rfl : y = M.machs.length := by omega
       have hlz : (M.machs.length : Int) < (M.machs.length : Int) + 1 := by omega
       have hx1 : IntKind.i64.wrap ((x : Int) + 1 + 1) = (x : Int) + 1 + 1 := by rw [IntKind.wrap_i64]; have := HF.out.1; omega
       go_wp2_with fail
       exact ⟨⟨x + 1, by go_num, by omega, GN.out⟩, by simp [RowKit.intOf]; omega⟩
    ·obtain rfl : x = M.items.length := by omega
     have hlz : (M.items.length : Int) < (M.items.length : Int) + 1 := by omega
     go_wp2_with fail
     go_ret
     exact ⟨_, rfl, G.out.trans GL.out, rfl⟩
  ·go_wp2_with fail
   clear m5 y1 s0
   have HOKQ := Lib.hid (show PlcOK M (putP (usOf L) (1 + (i0 : Int)) (1 + (k0 : Int)) (0)) from by
    rw [putP_chg]
    exact HV.out.chg (k := i0) (it := it) (by omega) HIT.out (fun s hs => by
     injection hs with hs
     subst hs
     exact ⟨⟨by show 1 ≤ 1 + (k0 : Int); omega, by show 1 + (k0 : Int) ≤ _; have := HK0.out; omega⟩, .inl rfl⟩))
   have HOKD := Lib.hid (show PlcOK M (dropP (putP (usOf L) (1 + (i0 : Int)) (1 + (k0 : Int)) (0)) (1 + (i0 : Int)) (1 + (k0 : Int))) from by
    rw [dropP_chg]
    exact HOKQ.out.chg (k := i0) (it := it) (by omega) HIT.out (fun s hs => by cases hs))
   refine (plc_Put w3 p c L (1 + (i0 : Int)) (1 + (k0 : Int)) (0) HP.out FK.out F9.out).mono ?_
   rintro _ w4 ⟨_, rfl, g1, pq, cq, Lq, rfl, hq, huq⟩
   have HQ := Lib.hid hq.at'
   have UQ := Lib.hid huq
   have FQ := Lib.hid (show FewK (usOf Lq) from by rw [huq]; exact HOKQ.out.fewP.k)
   have G := Lib.hid (G.out.trans g1)
   have TM := Lib.hid (TM.out.grow g1)
   have TP := Lib.hid (TP.out.grow g1)
   have HM := Lib.hid (HM.out.grow g1)
   have HP := Lib.hid (HP.out.grow g1)
   have HT := Lib.hid (HT.out.grow g1)
   clear g1
   have B := Cells.new w4 #[.slice pq Lq.length cq] 34
   have TQ := Lib.hid B.2
   have g1 := B.1
   have G := Lib.hid (G.out.trans g1)
   have TM := Lib.hid (TM.out.grow g1)
   have TP := Lib.hid (TP.out.grow g1)
   have HM := Lib.hid (HM.out.grow g1)
   have HP := Lib.hid (HP.out.grow g1)
   have HT := Lib.hid (HT.out.grow g1)
   have HQ := Lib.hid (HQ.out.grow g1)
   clear g1
   have q0 := TQ.out.at 0 rfl
   clear hq huq B
   unfold plcV
   go_wp2_with fail
   clear q0
   generalize w4.heap.size = bq at TQ ⊢
   generalize w4.alloc _ = w5 at TP TQ HP HQ HM HT TM G ⊢
   refine (plc_Drop w5 pq cq Lq (1 + (i0 : Int)) (1 + (k0 : Int)) HQ.out FQ.out).mono ?_
   rintro _ w6 ⟨_, rfl, g1, pd, cd, Ld, rfl, hd, hud⟩
   have HD := Lib.hid hd.at'
   have UD := Lib.hid (show usOf Ld = dropP (putP (usOf L) (1 + (i0 : Int)) (1 + (k0 : Int)) (0)) (1 + (i0 : Int)) (1 + (k0 : Int)) from by rw [hud, UQ.out])
   have FD := Lib.hid (show FewK (usOf Ld) from by rw [UD.out]; exact HOKD.out.fewP.k)
   have G := Lib.hid (G.out.trans g1)
   have TM := Lib.hid (TM.out.grow g1)
   have TP := Lib.hid (TP.out.grow g1)
   have HM := Lib.hid (HM.out.grow g1)
   have HP := Lib.hid (HP.out.grow g1)
   have HT := Lib.hid (HT.out.grow g1)
   have HQ := Lib.hid (HQ.out.grow g1)
   have TQ := Lib.hid (TQ.out.grow g1)
   clear g1
   have B := Cells.new w6 #[.slice pd Ld.length cd] 34
   have TD := Lib.hid B.2
   have g1 := B.1
   have G := Lib.hid (G.out.trans g1)
   have TM := Lib.hid (TM.out.grow g1)
   have TP := Lib.hid (TP.out.grow g1)
   have HM := Lib.hid (HM.out.grow g1)
   have HP := Lib.hid (HP.out.grow g1)
   have HT := Lib.hid (HT.out.grow g1)
   have HQ := Lib.hid (HQ.out.grow g1)
   have TQ := Lib.hid (TQ.out.grow g1)
   have HD := Lib.hid (HD.out.grow g1)
   clear g1
   have m0 := mc0 TM.out _ (Gr.refl _)
   have m1 := mc1 TM.out _ (Gr.refl _)
   have m2 := mc2 TM.out _ (Gr.refl _)
   have m3 := mc3 TM.out _ (Gr.refl _)
   have m4 := mc4 TM.out _ (Gr.refl _)
   have m5 := mc5 TM.out _ (Gr.refl _)
   have m6 := mc6 TM.out _ (Gr.refl _)
   have m7 := mc7 TM.out _ (Gr.refl _)
   have m8 := mc8 TM.out _ (Gr.refl _)
   have m9 := mc9 TM.out _ (Gr.refl _)
   have m10 := mc10 TM.out _ (Gr.refl _)
   have q0 := TQ.out.at 0 rfl
   clear hd hud B
   unfold plcV
   go_wp2_with fail
   clear m0 m1 m2 m3 m4 m5 m6 m7 m8 m9 m10
   clear q0
   generalize w6.heap.size = bd at TD ⊢
   generalize w6.alloc _ = w7 at TP TQ TD HP HQ HD HM HT TM G ⊢
   refine (plc_Valid w7 P M pq cq Lq HM.out HF.out HT.out HQ.out FQ.out).mono ?_
   rintro _ w8 ⟨r8, rfl, g1, h8⟩
   rcases h8.cases with ⟨rfl, _⟩ | ⟨_, k1⟩
   rotate_left
   ·exact absurd (by rw [UQ.out]; exact HOKQ.out) k1
   clear h8
   have G := Lib.hid (G.out.trans g1)
   have TM := Lib.hid (TM.out.grow g1)
   have TP := Lib.hid (TP.out.grow g1)
   have HM := Lib.hid (HM.out.grow g1)
   have HP := Lib.hid (HP.out.grow g1)
   have HT := Lib.hid (HT.out.grow g1)
   have HQ := Lib.hid (HQ.out.grow g1)
   have TQ := Lib.hid (TQ.out.grow g1)
   have HD := Lib.hid (HD.out.grow g1)
   have TD := Lib.hid (TD.out.grow g1)
   clear g1
   have m0 := mc0 TM.out _ (Gr.refl _)
   have m1 := mc1 TM.out _ (Gr.refl _)
   have m2 := mc2 TM.out _ (Gr.refl _)
   have m3 := mc3 TM.out _ (Gr.refl _)
   have m4 := mc4 TM.out _ (Gr.refl _)
   have m5 := mc5 TM.out _ (Gr.refl _)
   have m6 := mc6 TM.out _ (Gr.refl _)
   have m7 := mc7 TM.out _ (Gr.refl _)
   have m8 := mc8 TM.out _ (Gr.refl _)
   have m9 := mc9 TM.out _ (Gr.refl _)
   have m10 := mc10 TM.out _ (Gr.refl _)
   have q0 := TD.out.at 0 rfl
   go_wp2_with fail
   clear m0 m1 m2 m3 m4 m5 m6 m7 m8 m9 m10
   clear q0
   refine (plc_Valid w8 P M pd cd Ld HM.out HF.out HT.out HD.out FD.out).mono ?_
   rintro _ w9 ⟨r9, rfl, g1, h9⟩
   rcases h9.cases with ⟨rfl, _⟩ | ⟨_, k1⟩
   rotate_left
   ·exact absurd (by rw [UD.out]; exact HOKD.out) k1
   clear h9
   have G := Lib.hid (G.out.trans g1)
   have TM := Lib.hid (TM.out.grow g1)
   have TP := Lib.hid (TP.out.grow g1)
   have HM := Lib.hid (HM.out.grow g1)
   have HP := Lib.hid (HP.out.grow g1)
   have HT := Lib.hid (HT.out.grow g1)
   have HQ := Lib.hid (HQ.out.grow g1)
   have TQ := Lib.hid (TQ.out.grow g1)
   have HD := Lib.hid (HD.out.grow g1)
   have TD := Lib.hid (TD.out.grow g1)
   clear g1
   go_wp2_with fail
   go_loopw [16] (fun i w' => ∃ x : Nat, i = .int .i64 ((x : Int) + 1) ∧ x ≤ M.items.length ∧ Gr w9 w') (fun i _ => M.items.length + 1 - (RowKit.intOf i).toNat)
   case atStart => exact ⟨0, rfl, Nat.zero_le _, Gr.refl _⟩
   case round =>
    obtain ⟨x, rfl, hx, hg⟩ := hrel
    have GL := Lib.hid hg
    clear hg
    have m5 := mc5 (TM.out.grow GL.out) _ (Gr.refl _)
    by_cases hlt : x < M.items.length
    ·have hlt' : (x : Int) + 1 ≤ (M.items.length : Int) := by omega
     go_wp2_with fail
     clear m5
     go_loopw [17] (fun i w' => ∃ y : Nat, i = .int .i64 ((y : Int) + 1) ∧ y ≤ M.machs.length ∧ Gr w9 w') (fun i _ => M.machs.length + 1 - (RowKit.intOf i).toNat)
     case atStart => exact ⟨0, rfl, Nat.zero_le _, GL.out⟩
     case round =>
      obtain ⟨y, rfl, hy, hg⟩ := hrel
      have GN := Lib.hid hg
      clear hg
      have m3 := mc3 (TM.out.grow GN.out) _ (Gr.refl _)
      by_cases hly : y < M.machs.length
      ·have hly' : (y : Int) + 1 ≤ (M.machs.length : Int) := by omega
       have s0 := (TP.out.grow GN.out).at 0 rfl
       go_wp2_with fail
       clear m3 s0
       refine (plc_State wr p c L _ _ (HP.out.grow GN.out) FK.out).mono ?_
       rintro _ w10 ⟨_, rfl, g10, rfl⟩
       have GN := Lib.hid (GN.out.trans g10)
       obtain ⟨st, hst⟩ : ∃ s, stateP (usOf L) ((x : Int) + 1) ((y : Int) + 1) = s := ⟨_, rfl⟩
       rw [hst]
       have HST := Lib.hid hst
       obtain ⟨a, b⟩ := st
       unfold stateV
       have s0 := (TQ.out.grow GN.out).at 0 rfl
       clear hst g10
       go_wp2_with fail
       clear s0
       refine (plc_State w10 pq cq Lq _ _ (HQ.out.grow GN.out) FQ.out).mono ?_
       rintro _ w11 ⟨_, rfl, g11, rfl⟩
       have GN := Lib.hid (GN.out.trans g11)
       have s0 := (TD.out.grow GN.out).at 0 rfl
       have hx1 : IntKind.i64.wrap ((x : Int) + 1 + 1) = (x : Int) + 1 + 1 := by rw [IntKind.wrap_i64]; have := HF.out.1; omega
       have hy1 : IntKind.i64.wrap ((y : Int) + 1 + 1) = (y : Int) + 1 + 1 := by rw [IntKind.wrap_i64]; have := HF.out.1; omega
       clear g11
       by_cases hxe : (x : Int) + 1 = 1 + (i0 : Int)
       ·have hxb : ((x : Int) + 1 == 1 + (i0 : Int)) = true := by simpa using hxe
        by_cases hye : (y : Int) + 1 = 1 + (k0 : Int)
        ·have hyb : ((y : Int) + 1 == 1 + (k0 : Int)) = true := by simpa using hye
         obtain ⟨e1, e2⟩ := single_eq (s := 0) (k := 1 + (k0 : Int)) HV.out.rise (show InP (usOf L) (1 + (i0 : Int)) from ⟨by omega, by have := HI0.out; have := HV.out.2.1; omega⟩)
         rw [show stateP (usOf Lq) ((x : Int) + 1) ((y : Int) + 1) = (0, true) from by rw [UQ.out, hxe, hye]; exact e1]
         have HE2 := Lib.hid (show stateP (usOf Ld) ((x : Int) + 1) ((y : Int) + 1) = (0, false) from by rw [UD.out, hxe, hye]; exact e2)
         unfold stateV
         clear e1 e2 hxe hye
         go_wp2_with fail
         clear s0
         refine (plc_State w11 pd cd Ld _ _ (HD.out.grow GN.out) FD.out).mono ?_
         rintro _ w12 ⟨_, rfl, g12, rfl⟩
         have GN := Lib.hid (GN.out.trans g12)
         rw [HE2.out]
         unfold stateV
         clear g12
         have hse : (0 != 0) = false := by simp
         go_wp2_with fail
         exact ⟨⟨y + 1, by go_num, by omega, GN.out⟩, by simp [RowKit.intOf]; omega⟩
        ·have hyb : ((y : Int) + 1 == 1 + (k0 : Int)) = false := by simpa using hye
         clear hxe
         obtain ⟨e1, e2⟩ := single_ne (s := 0) (i := 1 + (i0 : Int)) (k := 1 + (k0 : Int)) (j := (x : Int) + 1) (n := (y : Int) + 1) HV.out.rise (fun q => hye q.2)
         rw [show stateP (usOf Lq) ((x : Int) + 1) ((y : Int) + 1) = (a, b) from by rw [UQ.out, e1, HST.out]]
         have HE2 := Lib.hid (show stateP (usOf Ld) ((x : Int) + 1) ((y : Int) + 1) = (a, b) from by rw [UD.out, e2, HST.out])
         unfold stateV
         clear e1 e2
         go_wp2_with fail
         clear s0
         refine (plc_State w11 pd cd Ld _ _ (HD.out.grow GN.out) FD.out).mono ?_
         rintro _ w12 ⟨_, rfl, g12, rfl⟩
         have GN := Lib.hid (GN.out.trans g12)
         rw [HE2.out]
         unfold stateV
         clear g12
         have hae : (a != a) = false := by simp
         have hbe : (b != b) = false := by simp
         go_wp2_with fail
         exact ⟨⟨y + 1, by go_num, by omega, GN.out⟩, by simp [RowKit.intOf]; omega⟩
       ·have hxb : ((x : Int) + 1 == 1 + (i0 : Int)) = false := by simpa using hxe
        obtain ⟨e1, e2⟩ := single_ne (s := 0) (i := 1 + (i0 : Int)) (k := 1 + (k0 : Int)) (j := (x : Int) + 1) (n := (y : Int) + 1) HV.out.rise (fun q => hxe q.1)
        rw [show stateP (usOf Lq) ((x : Int) + 1) ((y : Int) + 1) = (a, b) from by rw [UQ.out, e1, HST.out]]
        have HE2 := Lib.hid (show stateP (usOf Ld) ((x : Int) + 1) ((y : Int) + 1) = (a, b) from by rw [UD.out, e2, HST.out])
        unfold stateV
        clear e1 e2
        go_wp2_with fail
        clear s0
        refine (plc_State w11 pd cd Ld _ _ (HD.out.grow GN.out) FD.out).mono ?_
        rintro _ w12 ⟨_, rfl, g12, rfl⟩
        have GN := Lib.hid (GN.out.trans g12)
        rw [HE2.out]
        unfold stateV
        clear g12
        have hae : (a != a) = false := by simp
        have hbe : (b != b) = false := by simp
        go_wp2_with fail
        exact ⟨⟨y + 1, by go_num, by omega, GN.out⟩, by simp [RowKit.intOf]; omega⟩
      ·obtain rfl : y = M.machs.length := by omega
       have hlz : (M.machs.length : Int) < (M.machs.length : Int) + 1 := by omega
       have hx1 : IntKind.i64.wrap ((x : Int) + 1 + 1) = (x : Int) + 1 + 1 := by rw [IntKind.wrap_i64]; have := HF.out.1; omega
       go_wp2_with fail
       exact ⟨⟨x + 1, by go_num, by omega, GN.out⟩, by simp [RowKit.intOf]; omega⟩
    ·obtain rfl : x = M.items.length := by omega
     have hlz : (M.items.length : Int) < (M.items.length : Int) + 1 := by omega
     go_wp2_with fail
     go_ret
     exact ⟨_, rfl, G.out.trans GL.out, rfl⟩
 ·have hs2b : ((s1 : Int) == 2) = false := by simp; omega
  have HS2 := Lib.hid hs2
  clear hs2
  go_wp2_with fail
  clear s0
  have HOKQ := Lib.hid (show PlcOK M (putP (usOf L) (1 + (i0 : Int)) (1 + (k0 : Int)) ((s1 : Int))) from by
   rw [putP_chg]
   exact HV.out.chg (k := i0) (it := it) (by omega) HIT.out (fun s hs => by
    injection hs with hs
    subst hs
    exact ⟨⟨by show 1 ≤ 1 + (k0 : Int); omega, by show 1 + (k0 : Int) ≤ _; have := HK0.out; omega⟩, (by have := HS1.out; have := HS2.out; show (s1 : Int) = 0 ∨ (s1 : Int) = 1 ∨ _; omega)⟩))
  have HOKD := Lib.hid (show PlcOK M (dropP (putP (usOf L) (1 + (i0 : Int)) (1 + (k0 : Int)) ((s1 : Int))) (1 + (i0 : Int)) (1 + (k0 : Int))) from by
   rw [dropP_chg]
   exact HOKQ.out.chg (k := i0) (it := it) (by omega) HIT.out (fun s hs => by cases hs))
  refine (plc_Put w3 p c L (1 + (i0 : Int)) (1 + (k0 : Int)) ((s1 : Int)) HP.out FK.out F9.out).mono ?_
  rintro _ w4 ⟨_, rfl, g1, pq, cq, Lq, rfl, hq, huq⟩
  have HQ := Lib.hid hq.at'
  have UQ := Lib.hid huq
  have FQ := Lib.hid (show FewK (usOf Lq) from by rw [huq]; exact HOKQ.out.fewP.k)
  have G := Lib.hid (G.out.trans g1)
  have TM := Lib.hid (TM.out.grow g1)
  have TP := Lib.hid (TP.out.grow g1)
  have HM := Lib.hid (HM.out.grow g1)
  have HP := Lib.hid (HP.out.grow g1)
  have HT := Lib.hid (HT.out.grow g1)
  clear g1
  have B := Cells.new w4 #[.slice pq Lq.length cq] 34
  have TQ := Lib.hid B.2
  have g1 := B.1
  have G := Lib.hid (G.out.trans g1)
  have TM := Lib.hid (TM.out.grow g1)
  have TP := Lib.hid (TP.out.grow g1)
  have HM := Lib.hid (HM.out.grow g1)
  have HP := Lib.hid (HP.out.grow g1)
  have HT := Lib.hid (HT.out.grow g1)
  have HQ := Lib.hid (HQ.out.grow g1)
  clear g1
  have q0 := TQ.out.at 0 rfl
  clear hq huq B
  unfold plcV
  go_wp2_with fail
  clear q0
  generalize w4.heap.size = bq at TQ ⊢
  generalize w4.alloc _ = w5 at TP TQ HP HQ HM HT TM G ⊢
  refine (plc_Drop w5 pq cq Lq (1 + (i0 : Int)) (1 + (k0 : Int)) HQ.out FQ.out).mono ?_
  rintro _ w6 ⟨_, rfl, g1, pd, cd, Ld, rfl, hd, hud⟩
  have HD := Lib.hid hd.at'
  have UD := Lib.hid (show usOf Ld = dropP (putP (usOf L) (1 + (i0 : Int)) (1 + (k0 : Int)) ((s1 : Int))) (1 + (i0 : Int)) (1 + (k0 : Int)) from by rw [hud, UQ.out])
  have FD := Lib.hid (show FewK (usOf Ld) from by rw [UD.out]; exact HOKD.out.fewP.k)
  have G := Lib.hid (G.out.trans g1)
  have TM := Lib.hid (TM.out.grow g1)
  have TP := Lib.hid (TP.out.grow g1)
  have HM := Lib.hid (HM.out.grow g1)
  have HP := Lib.hid (HP.out.grow g1)
  have HT := Lib.hid (HT.out.grow g1)
  have HQ := Lib.hid (HQ.out.grow g1)
  have TQ := Lib.hid (TQ.out.grow g1)
  clear g1
  have B := Cells.new w6 #[.slice pd Ld.length cd] 34
  have TD := Lib.hid B.2
  have g1 := B.1
  have G := Lib.hid (G.out.trans g1)
  have TM := Lib.hid (TM.out.grow g1)
  have TP := Lib.hid (TP.out.grow g1)
  have HM := Lib.hid (HM.out.grow g1)
  have HP := Lib.hid (HP.out.grow g1)
  have HT := Lib.hid (HT.out.grow g1)
  have HQ := Lib.hid (HQ.out.grow g1)
  have TQ := Lib.hid (TQ.out.grow g1)
  have HD := Lib.hid (HD.out.grow g1)
  clear g1
  have m0 := mc0 TM.out _ (Gr.refl _)
  have m1 := mc1 TM.out _ (Gr.refl _)
  have m2 := mc2 TM.out _ (Gr.refl _)
  have m3 := mc3 TM.out _ (Gr.refl _)
  have m4 := mc4 TM.out _ (Gr.refl _)
  have m5 := mc5 TM.out _ (Gr.refl _)
  have m6 := mc6 TM.out _ (Gr.refl _)
  have m7 := mc7 TM.out _ (Gr.refl _)
  have m8 := mc8 TM.out _ (Gr.refl _)
  have m9 := mc9 TM.out _ (Gr.refl _)
  have m10 := mc10 TM.out _ (Gr.refl _)
  have q0 := TQ.out.at 0 rfl
  clear hd hud B
  unfold plcV
  go_wp2_with fail
  clear m0 m1 m2 m3 m4 m5 m6 m7 m8 m9 m10
  clear q0
  generalize w6.heap.size = bd at TD ⊢
  generalize w6.alloc _ = w7 at TP TQ TD HP HQ HD HM HT TM G ⊢
  refine (plc_Valid w7 P M pq cq Lq HM.out HF.out HT.out HQ.out FQ.out).mono ?_
  rintro _ w8 ⟨r8, rfl, g1, h8⟩
  rcases h8.cases with ⟨rfl, _⟩ | ⟨_, k1⟩
  rotate_left
  ·exact absurd (by rw [UQ.out]; exact HOKQ.out) k1
  clear h8
  have G := Lib.hid (G.out.trans g1)
  have TM := Lib.hid (TM.out.grow g1)
  have TP := Lib.hid (TP.out.grow g1)
  have HM := Lib.hid (HM.out.grow g1)
  have HP := Lib.hid (HP.out.grow g1)
  have HT := Lib.hid (HT.out.grow g1)
  have HQ := Lib.hid (HQ.out.grow g1)
  have TQ := Lib.hid (TQ.out.grow g1)
  have HD := Lib.hid (HD.out.grow g1)
  have TD := Lib.hid (TD.out.grow g1)
  clear g1
  have m0 := mc0 TM.out _ (Gr.refl _)
  have m1 := mc1 TM.out _ (Gr.refl _)
  have m2 := mc2 TM.out _ (Gr.refl _)
  have m3 := mc3 TM.out _ (Gr.refl _)
  have m4 := mc4 TM.out _ (Gr.refl _)
  have m5 := mc5 TM.out _ (Gr.refl _)
  have m6 := mc6 TM.out _ (Gr.refl _)
  have m7 := mc7 TM.out _ (Gr.refl _)
  have m8 := mc8 TM.out _ (Gr.refl _)
  have m9 := mc9 TM.out _ (Gr.refl _)
  have m10 := mc10 TM.out _ (Gr.refl _)
  have q0 := TD.out.at 0 rfl
  go_wp2_with fail
  clear m0 m1 m2 m3 m4 m5 m6 m7 m8 m9 m10
  clear q0
  refine (plc_Valid w8 P M pd cd Ld HM.out HF.out HT.out HD.out FD.out).mono ?_
  rintro _ w9 ⟨r9, rfl, g1, h9⟩
  rcases h9.cases with ⟨rfl, _⟩ | ⟨_, k1⟩
  rotate_left
  ·exact absurd (by rw [UD.out]; exact HOKD.out) k1
  clear h9
  have G := Lib.hid (G.out.trans g1)
  have TM := Lib.hid (TM.out.grow g1)
  have TP := Lib.hid (TP.out.grow g1)
  have HM := Lib.hid (HM.out.grow g1)
  have HP := Lib.hid (HP.out.grow g1)
  have HT := Lib.hid (HT.out.grow g1)
  have HQ := Lib.hid (HQ.out.grow g1)
  have TQ := Lib.hid (TQ.out.grow g1)
  have HD := Lib.hid (HD.out.grow g1)
  have TD := Lib.hid (TD.out.grow g1)
  clear g1
  go_wp2_with fail
  go_loopw [16] (fun i w' => ∃ x : Nat, i = .int .i64 ((x : Int) + 1) ∧ x ≤ M.items.length ∧ Gr w9 w') (fun i _ => M.items.length + 1 - (RowKit.intOf i).toNat)
  case atStart => exact ⟨0, rfl, Nat.zero_le _, Gr.refl _⟩
  case round =>
   obtain ⟨x, rfl, hx, hg⟩ := hrel
   have GL := Lib.hid hg
   clear hg
   have m5 := mc5 (TM.out.grow GL.out) _ (Gr.refl _)
   by_cases hlt : x < M.items.length
   ·have hlt' : (x : Int) + 1 ≤ (M.items.length : Int) := by omega
    go_wp2_with fail
    clear m5
    go_loopw [17] (fun i w' => ∃ y : Nat, i = .int .i64 ((y : Int) + 1) ∧ y ≤ M.machs.length ∧ Gr w9 w') (fun i _ => M.machs.length + 1 - (RowKit.intOf i).toNat)
    case atStart => exact ⟨0, rfl, Nat.zero_le _, GL.out⟩
    case round =>
     obtain ⟨y, rfl, hy, hg⟩ := hrel
     have GN := Lib.hid hg
     clear hg
     have m3 := mc3 (TM.out.grow GN.out) _ (Gr.refl _)
     by_cases hly : y < M.machs.length
     ·have hly' : (y : Int) + 1 ≤ (M.machs.length : Int) := by omega
      have s0 := (TP.out.grow GN.out).at 0 rfl
      go_wp2_with fail
      clear m3 s0
      refine (plc_State wr p c L _ _ (HP.out.grow GN.out) FK.out).mono ?_
      rintro _ w10 ⟨_, rfl, g10, rfl⟩
      have GN := Lib.hid (GN.out.trans g10)
      obtain ⟨st, hst⟩ : ∃ s, stateP (usOf L) ((x : Int) + 1) ((y : Int) + 1) = s := ⟨_, rfl⟩
      rw [hst]
      have HST := Lib.hid hst
      obtain ⟨a, b⟩ := st
      unfold stateV
      have s0 := (TQ.out.grow GN.out).at 0 rfl
      clear hst g10
      go_wp2_with fail
      clear s0
      refine (plc_State w10 pq cq Lq _ _ (HQ.out.grow GN.out) FQ.out).mono ?_
      rintro _ w11 ⟨_, rfl, g11, rfl⟩
      have GN := Lib.hid (GN.out.trans g11)
      have s0 := (TD.out.grow GN.out).at 0 rfl
      have hx1 : IntKind.i64.wrap ((x : Int) + 1 + 1) = (x : Int) + 1 + 1 := by rw [IntKind.wrap_i64]; have := HF.out.1; omega
      have hy1 : IntKind.i64.wrap ((y : Int) + 1 + 1) = (y : Int) + 1 + 1 := by rw [IntKind.wrap_i64]; have := HF.out.1; omega
      clear g11
      by_cases hxe : (x : Int) + 1 = 1 + (i0 : Int)
      ·have hxb : ((x : Int) + 1 == 1 + (i0 : Int)) = true := by simpa using hxe
       by_cases hye : (y : Int) + 1 = 1 + (k0 : Int)
       ·have hyb : ((y : Int) + 1 == 1 + (k0 : Int)) = true := by simpa using hye
        obtain ⟨e1, e2⟩ := single_eq (s := (s1 : Int)) (k := 1 + (k0 : Int)) HV.out.rise (show InP (usOf L) (1 + (i0 : Int)) from ⟨by omega, by have := HI0.out; have := HV.out.2.1; omega⟩)
        rw [show stateP (usOf Lq) ((x : Int) + 1) ((y : Int) + 1) = ((s1 : Int), true) from by rw [UQ.out, hxe, hye]; exact e1]
        have HE2 := Lib.hid (show stateP (usOf Ld) ((x : Int) + 1) ((y : Int) + 1) = (0, false) from by rw [UD.out, hxe, hye]; exact e2)
        unfold stateV
        clear e1 e2 hxe hye
        go_wp2_with fail
        clear s0
        refine (plc_State w11 pd cd Ld _ _ (HD.out.grow GN.out) FD.out).mono ?_
        rintro _ w12 ⟨_, rfl, g12, rfl⟩
        have GN := Lib.hid (GN.out.trans g12)
        rw [HE2.out]
        unfold stateV
        clear g12
        have hse : ((s1 : Int) != (s1 : Int)) = false := by simp
        go_wp2_with fail
        exact ⟨⟨y + 1, by go_num, by omega, GN.out⟩, by simp [RowKit.intOf]; omega⟩
       ·have hyb : ((y : Int) + 1 == 1 + (k0 : Int)) = false := by simpa using hye
        clear hxe
        obtain ⟨e1, e2⟩ := single_ne (s := (s1 : Int)) (i := 1 + (i0 : Int)) (k := 1 + (k0 : Int)) (j := (x : Int) + 1) (n := (y : Int) + 1) HV.out.rise (fun q => hye q.2)
        rw [show stateP (usOf Lq) ((x : Int) + 1) ((y : Int) + 1) = (a, b) from by rw [UQ.out, e1, HST.out]]
        have HE2 := Lib.hid (show stateP (usOf Ld) ((x : Int) + 1) ((y : Int) + 1) = (a, b) from by rw [UD.out, e2, HST.out])
        unfold stateV
        clear e1 e2
        go_wp2_with fail
        clear s0
        refine (plc_State w11 pd cd Ld _ _ (HD.out.grow GN.out) FD.out).mono ?_
        rintro _ w12 ⟨_, rfl, g12, rfl⟩
        have GN := Lib.hid (GN.out.trans g12)
        rw [HE2.out]
        unfold stateV
        clear g12
        have hae : (a != a) = false := by simp
        have hbe : (b != b) = false := by simp
        go_wp2_with fail
        exact ⟨⟨y + 1, by go_num, by omega, GN.out⟩, by simp [RowKit.intOf]; omega⟩
      ·have hxb : ((x : Int) + 1 == 1 + (i0 : Int)) = false := by simpa using hxe
       obtain ⟨e1, e2⟩ := single_ne (s := (s1 : Int)) (i := 1 + (i0 : Int)) (k := 1 + (k0 : Int)) (j := (x : Int) + 1) (n := (y : Int) + 1) HV.out.rise (fun q => hxe q.1)
       rw [show stateP (usOf Lq) ((x : Int) + 1) ((y : Int) + 1) = (a, b) from by rw [UQ.out, e1, HST.out]]
       have HE2 := Lib.hid (show stateP (usOf Ld) ((x : Int) + 1) ((y : Int) + 1) = (a, b) from by rw [UD.out, e2, HST.out])
       unfold stateV
       clear e1 e2
       go_wp2_with fail
       clear s0
       refine (plc_State w11 pd cd Ld _ _ (HD.out.grow GN.out) FD.out).mono ?_
       rintro _ w12 ⟨_, rfl, g12, rfl⟩
       have GN := Lib.hid (GN.out.trans g12)
       rw [HE2.out]
       unfold stateV
       clear g12
       have hae : (a != a) = false := by simp
       have hbe : (b != b) = false := by simp
       go_wp2_with fail
       exact ⟨⟨y + 1, by go_num, by omega, GN.out⟩, by simp [RowKit.intOf]; omega⟩
     ·obtain rfl : y = M.machs.length := by omega
      have hlz : (M.machs.length : Int) < (M.machs.length : Int) + 1 := by omega
      have hx1 : IntKind.i64.wrap ((x : Int) + 1 + 1) = (x : Int) + 1 + 1 := by rw [IntKind.wrap_i64]; have := HF.out.1; omega
      go_wp2_with fail
      exact ⟨⟨x + 1, by go_num, by omega, GN.out⟩, by simp [RowKit.intOf]; omega⟩
   ·obtain rfl : x = M.items.length := by omega
    have hlz : (M.items.length : Int) < (M.items.length : Int) + 1 := by omega
    go_wp2_with fail
    go_ret
    exact ⟨_, rfl, G.out.trans GL.out, rfl⟩
end Go.Proofs.YtchpbaaabnkkkaaGreatDoor

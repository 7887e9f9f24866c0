/-
 awake of chapter 20.
-/
import Derived.Test.YtchpbaaabnkkkaaGreatDoorPmG
import Derived.Test.YtchpbaaabnkkkaaGreatDoorPmE
import Derived.Test.YtchpbaaabnkkkaaGreatDoorPmA
import Derived.Test.YtchpbaaabnkkkaaGreatDoorPlI
import Derived.Test.YtchpbaaabnkkkaaGreatDoorPlE
import Derived.Test.YtchpbaaabnkkkaaGreatDoorFind
namespace Go.Proofs.YtchpbaaabnkkkaaGreatDoor
open Go.RowKit Go.Lib Lex
set_option linter.unusedVariables false
set_option linter.unusedSimpArgs false

theorem initP_at {M : Mdl} {i : Nat} {it : ItemM} (h : M.items[i]? = some it) : (initP M)[i]? = some (it.on.map unit0) := by
 unfold initP
 rw [List.getElem?_map, h]; rfl
theorem initP_ok {M : Mdl} (h : MdlOK M) : PlcOK M (initP M) := by
 refine ⟨h, by unfold initP; simp, fun i l it hl hit => ?_⟩
 rw [initP_at hit] at hl
 injection hl with hl
 subst hl
 obtain ⟨_, hms, _⟩ := h.2.2.2.2.1 it (List.mem_of_getElem? hit)
 have hr := rise_nodup hms
 have hlt : ∀ (d i : Nat) (a b : Int), it.on[i]? = some a → it.on[i + d + 1]? = some b → a < b := by
  intro d
  induction d with
  | zero =>
   intro i a b ha hb
   exact (hms.2 (i + 1) b (by simpa using hb)).2 (by omega) a (by simpa using ha)
  | succ d ih =>
   intro i a b ha hb
   have hl := (List.getElem?_eq_some_iff.1 hb).1
   have h1 := ih i a _ ha (List.getElem?_eq_getElem (by omega))
   have h2 := (hms.2 (i + (d + 1) + 1) b hb).2 (by omega) it.on[i + d + 1] (by rw [show i + (d + 1) + 1 - 1 = i + d + 1 by omega]; exact List.getElem?_eq_getElem (by omega))
   omega
 refine ⟨fun i j x y hij hx hy => ?_, fun u hu => ?_⟩
 ·rw [List.getElem?_map] at hx hy
  obtain ⟨a, ha, rfl⟩ := Option.map_eq_some_iff.1 hx
  obtain ⟨b, hb, rfl⟩ := Option.map_eq_some_iff.1 hy
  exact hlt (j - i - 1) i a b ha (by rw [show i + (j - i - 1) + 1 = j by omega]; exact hb)
 ·obtain ⟨n, hn, rfl⟩ := List.mem_map.1 hu
  exact ⟨hr.2 n hn, .inl rfl⟩
theorem initP_calm (M : Mdl) : CalmP (initP M) := fun l hl u hu => by
 unfold initP at hl
 obtain ⟨x, _, rfl⟩ := List.mem_map.1 hl
 obtain ⟨n, _, rfl⟩ := List.mem_map.1 hu
 rfl
theorem initP_few {M : Mdl} (h : Few M) : FewK (initP M) ∧ ∀ l ∈ initP M, l.length ≤ 900 := by
 have hs : ∀ l ∈ initP M, l.length ≤ 25 := fun l hl => by
  unfold initP at hl
  obtain ⟨x, hx, rfl⟩ := List.mem_map.1 hl
  have := (h.2.2.2.2.2.1 x hx).2
  rw [List.length_map]; exact this
 refine ⟨⟨?_, fun l hl => by have := hs l hl; omega⟩, fun l hl => by have := hs l hl; omega⟩
 have := h.1
 unfold initP
 rw [List.length_map]; omega
theorem ex_init (q : Option Addr) : initP (exM q) = [[⟨2, 0⟩]] := by kernel_rfl
theorem ex_put (q : Option Addr) : putP (initP (exM q)) 1 1 1 = [[⟨1, 1⟩, ⟨2, 0⟩]] := by kernel_rfl
theorem ex_lines1 (q : Option Addr) : linesT (exM q) [[⟨2, 0⟩]] 1 = [[100, 98, 58, 32, 109, 50, 32, 114, 101, 97, 100, 121]] := by kernel_rfl
theorem ex_lines2 (q : Option Addr) : linesT (exM q) [[⟨1, 1⟩, ⟨2, 0⟩]] 1 = [[100, 98, 58, 32, 109, 49, 32, 108, 111, 97, 100, 105, 110, 103, 44, 32, 109, 50, 32, 114, 101, 97, 100, 121]] := by kernel_rfl
theorem ex_load (q : Option Addr) : loadP (exM q) [[⟨1, 1⟩, ⟨2, 0⟩]] 1 1 = 4 := by kernel_rfl
theorem ex_dark (q : Option Addr) : darkP (exM q) [[⟨1, 1⟩, ⟨2, 0⟩]] 1 = 2 := by kernel_rfl
theorem ex_drop : dropP [[⟨1, 1⟩, ⟨2, 0⟩]] 1 1 = [[⟨2, 0⟩]] := by kernel_rfl
theorem ex_ok1 (q : Option Addr) : PlcOK (exM q) [[⟨2, 0⟩]] := by rw [← ex_init q]; exact initP_ok (exOK q)
theorem ex_ok2 (q : Option Addr) : PlcOK (exM q) [[⟨1, 1⟩, ⟨2, 0⟩]] := by
 rw [← ex_put q, putP_chg]
 exact (initP_ok (exOK q)).chg (k := 0) (it := ⟨[100, 98], 0, 1, 4, 2, 1, q, 1, [2]⟩) (by decide) rfl (fun s hs => by
  injection hs with hs
  subst hs
  exact ⟨⟨by decide, by unfold exM exM0; simp⟩, .inr (.inl rfl)⟩)
theorem ex_few {X : Plc} (h : X = [[⟨2, 0⟩]] ∨ X = [[⟨1, 1⟩, ⟨2, 0⟩]]) : FewK X ∧ ∀ l ∈ X, l.length ≤ 900 := by
 rcases h with rfl | rfl
 ·exact ⟨⟨by simp, by simp⟩, by simp⟩
 ·exact ⟨⟨by simp, by simp⟩, by simp⟩
theorem form_yes {M : Mdl} {X : Plc} {r : Value} {w' : World} {ls : List UInt8} (h : FormR M X r w') (hok : PlcOK M X) (hl : linesT M X M.items.length = [ls]) : ∃ p c, r = .slice p 1 c ∧ StrL w' (.slice p 1 c) [ls] := by
 rcases h with ⟨_, h⟩ | ⟨hn, _⟩
 ·rw [hl] at h
  obtain ⟨p, c, rfl, _, _⟩ := h.parts
  exact ⟨p, c, rfl, h⟩
 ·exact absurd hok hn
set_option maxRecDepth 100000 in
set_option maxHeartbeats 6400000 in
theorem law20_awake (w : World) (ht : Tab w) : Calls Tryz.prog 12 #[] w (Ret w fun r _ => r = .bool true) := by
 have HT := Lib.hid ht
 clear ht
 go_enter Tryz.func12, Tryz.ntmps12
 go_wp2_with fail
 refine (law15_Example w).mono ?_
 rintro _ w1 ⟨_, rfl, g1, P, q, rfl, hm⟩
 have B := Cells.new w1 (mcells P (exM q)) 29
 have m0 := mc0 B.2 _ (Gr.refl _)
 have m1 := mc1 B.2 _ (Gr.refl _)
 have m2 := mc2 B.2 _ (Gr.refl _)
 have m3 := mc3 B.2 _ (Gr.refl _)
 have m4 := mc4 B.2 _ (Gr.refl _)
 have m5 := mc5 B.2 _ (Gr.refl _)
 have m6 := mc6 B.2 _ (Gr.refl _)
 have m7 := mc7 B.2 _ (Gr.refl _)
 have m8 := mc8 B.2 _ (Gr.refl _)
 have m9 := mc9 B.2 _ (Gr.refl _)
 have m10 := mc10 B.2 _ (Gr.refl _)
 have H0 := Lib.hid (g1.trans B.1)
 have HM := Lib.hid (hm.grow B.1)
 have TM := Lib.hid B.2
 clear g1 hm B
 generalize hM : exM q = M at H0 HM TM m0 m1 m2 m3 m4 m5 m6 m7 m8 m9 m10 ⊢
 have HMM := Lib.hid hM
 clear hM
 unfold mcells at H0 HM TM ⊢
 go_wp2_with fail
 generalize w1.heap.size = bm at TM m0 m1 m2 m3 m4 m5 m6 m7 m8 m9 m10 ⊢
 generalize w1.alloc _ = W at TM HM H0 m0 m1 m2 m3 m4 m5 m6 m7 m8 m9 m10 ⊢
 have TM := Lib.hid (show Cells W bm (mcells P M) from TM.out)
 have G := Lib.hid H0.out
 have HT := Lib.hid (HT.out.grow G.out)
 clear H0
 clear m0 m1 m2 m3 m4 m5 m6 m7 m8 m9 m10
 have HF := Lib.hid (show Few M by rw [← HMM.out]; exact exFew q)
 refine (plc_Initial W P M HM.out HF.out).mono ?_
 rintro _ w2 ⟨_, rfl, g1, pp, cp, Lp, rfl, hp, hup⟩
 have UP := Lib.hid (show usOf Lp = [[⟨2, 0⟩]] from by rw [hup, ← HMM.out]; exact ex_init q)
 have FP := Lib.hid (show FewK (usOf Lp) ∧ ∀ l ∈ usOf Lp, l.length ≤ 900 from ex_few (.inl UP.out))
 have HP := Lib.hid hp
 have G := Lib.hid (G.out.trans g1)
 have TM := Lib.hid (TM.out.grow g1)
 have HM := Lib.hid (HM.out.grow g1)
 have HT := Lib.hid (HT.out.grow g1)
 clear g1
 have B := Cells.new w2 #[.slice pp Lp.length cp] 34
 have p0 := B.2.at 0 rfl
 have TP := Lib.hid B.2
 have g1 := B.1
 have G := Lib.hid (G.out.trans g1)
 have TM := Lib.hid (TM.out.grow g1)
 have HM := Lib.hid (HM.out.grow g1)
 have HT := Lib.hid (HT.out.grow g1)
 have HP := Lib.hid (HP.out.grow g1)
 clear g1
 clear hp hup B
 unfold plcV
 go_wp2_with fail
 clear p0
 generalize w2.heap.size = bp at TP ⊢
 generalize w2.alloc _ = W2 at TP HP HM HT TM G ⊢
 refine (plc_Put W2 pp cp Lp 1 1 1 HP.out FP.out.1 FP.out.2).mono ?_
 rintro _ w3 ⟨_, rfl, g1, pq, cq, Lq, rfl, hq, huq⟩
 have UQ := Lib.hid (show usOf Lq = [[⟨1, 1⟩, ⟨2, 0⟩]] from by rw [huq, UP.out, ← ex_init q]; exact ex_put q)
 have FQ := Lib.hid (show FewK (usOf Lq) ∧ ∀ l ∈ usOf Lq, l.length ≤ 900 from ex_few (.inr UQ.out))
 have HQ := Lib.hid hq.at'
 have G := Lib.hid (G.out.trans g1)
 have TM := Lib.hid (TM.out.grow g1)
 have HM := Lib.hid (HM.out.grow g1)
 have HT := Lib.hid (HT.out.grow g1)
 have HP := Lib.hid (HP.out.grow g1)
 have TP := Lib.hid (TP.out.grow g1)
 clear g1
 have B := Cells.new w3 #[.slice pq Lq.length cq] 34
 have TQ := Lib.hid B.2
 have g1 := B.1
 have G := Lib.hid (G.out.trans g1)
 have TM := Lib.hid (TM.out.grow g1)
 have HM := Lib.hid (HM.out.grow g1)
 have HT := Lib.hid (HT.out.grow g1)
 have HP := Lib.hid (HP.out.grow g1)
 have TP := Lib.hid (TP.out.grow g1)
 have HQ := Lib.hid (HQ.out.grow g1)
 clear g1
 clear hq huq B
 unfold plcV
 go_wp2_with fail
 generalize w3.heap.size = bq at TQ ⊢
 generalize w3.alloc _ = W3 at TP TQ HP HQ HM HT TM G ⊢
 have hI0 : Gr W3 W3.drew := (Gr.refl _).drew
 have m0 := mc0 TM.out
 have m1 := mc1 TM.out
 have m2 := mc2 TM.out
 have m3 := mc3 TM.out
 have m4 := mc4 TM.out
 have m5 := mc5 TM.out
 have m6 := mc6 TM.out
 have m7 := mc7 TM.out
 have m8 := mc8 TM.out
 have m9 := mc9 TM.out
 have m10 := mc10 TM.out
 try dsimp only at m0 m1 m2 m3 m4 m5 m6 m7 m8 m9 m10
 have s0 := TP.out.c 0 rfl
 have s1 := TQ.out.c 0 rfl
 refine Inv.wp_region_loose (fun w' => Gr W3 w') (.read 0 (.read 1 (.two 2 (.one 3 (.one 4 (.read 5 (.read 6 (.read 7 (.two 8 (.one 9 (.one 10 (.read 11 (.read 12 (.read 13 (.read 14 (.one 15 (.read 16 (.read 17 (.read 18 (.read 19 (.read 20 (.one 21 (.read 22 (.read 23 (.read 24 (.read 25 (.read 27 (.one 26 (.one 28 (.read 29 (.read 30 (.read 31 (.one 32 (.read 33 (.read 34 (.read 35 (.one 36 (.read 37 (.read 38 (.read 39 .stop))))))))))))))))))))))))))))))) 9 (.one 8 (.one 10 (.read 11 (.read 12 (.read 13 (.read 14 (.one 15 (.read 16 (.read 17 (.read 18 (.read 19 (.read 20 (.one 21 (.read 22 (.read 23 (.read 24 (.read 25 (.read 27 (.one 26 (.one 28 (.read 29 (.read 30 (.read 31 (.one 32 (.read 33 (.read 34 (.read 35 (.one 36 (.read 37 (.read 38 (.read 39 .stop))))))))))))))))))))))))))))))))))))) 3 (.one 2 (.one 4 (.read 5 (.read 6 (.read 7 (.two 8 (.one 9 (.one 10 (.read 11 (.read 12 (.read 13 (.read 14 (.one 15 (.read 16 (.read 17 (.read 18 (.read 19 (.read 20 (.one 21 (.read 22 (.read 23 (.read 24 (.read 25 (.read 27 (.one 26 (.one 28 (.read 29 (.read 30 (.read 31 (.one 32 (.read 33 (.read 34 (.read 35 (.one 36 (.read 37 (.read 38 (.read 39 .stop))))))))))))))))))))))))))))))) 9 (.one 8 (.one 10 (.read 11 (.read 12 (.read 13 (.read 14 (.one 15 (.read 16 (.read 17 (.read 18 (.read 19 (.read 20 (.one 21 (.read 22 (.read 23 (.read 24 (.read 25 (.read 27 (.one 26 (.one 28 (.read 29 (.read 30 (.read 31 (.one 32 (.read 33 (.read 34 (.read 35 (.one 36 (.read 37 (.read 38 (.read 39 .stop)))))))))))))))))))))))))))))))))))))))) hI0 (by kernel_rfl) (by kernel_rfl) rfl (by kernel_rfl) (fun _ _ d _ _ h => by cases d <;> exact h) ?_
 repeat (refine Inv.wpL_read (v := ?_) rfl rfl (fun w' hg => ?_) (fun K hK => ?_); rotate_left; (go_simp; rfl); go_simp; refine hK _ _ ?_; clear hK K)
 generalize W3.drew = W4 at hI0 ⊢
 refine Inv.wpL_two ?_ ?_
 ·refine Inv.wpL_fn (args := ?_) rfl rfl rfl rfl rfl rfl (by kernel_rfl) (by kernel_rfl) ?_ (fun K hK => ?_)
  rotate_left
  ·go_simp; rfl
  refine (plc_Format W4 P M pp cp Lp (HM.out.grow hI0) HF.out (HT.out.grow hI0) (HP.out.grow hI0) FP.out.1).mono ?_
  rintro _ w1 ⟨r1, rfl, g1, h1⟩
  obtain ⟨p1, c1, hr1, hs1⟩ := form_yes h1 (by rw [UP.out, ← HMM.out]; exact ex_ok1 q) (by rw [UP.out, ← HMM.out]; exact ex_lines1 q)
  subst hr1
  have G1 := hI0.trans g1
  have F1 := Lib.hid hs1
  clear h1 hs1 g1
  refine ⟨_, rfl, G1, ?_⟩
  go_simp
  refine hK _ _ ?_
  clear hK K
  refine Inv.wpL_val (v := ?_) (w' := ?_) rfl rfl ?_ ?_ (fun K hK => ?_)
  rotate_left 2
  ·go_simp; first | rfl | (constructor <;> rfl)
  ·exact (G1).alloc _
  go_simp
  refine hK _ _ ?_
  clear hK K
  have B := SlL.new w1 9 encS_len [[100, 98, 58, 32, 109, 50, 32, 114, 101, 97, 100, 121]] #[.string ⟨#[100, 98, 58, 32, 109, 50, 32, 114, 101, 97, 100, 121]⟩] 1 rfl rfl (by decide)
  have G1 := (G1).trans B.1
  have S1 := Lib.hid B.2
  have GB := Lib.hid B.1
  clear B
  have F1 := Lib.hid (SlL.grow F1.out GB.out)
  generalize w1.alloc _ = w6 at F1 S1 G1 ⊢
  generalize w1.heap.size = b1 at S1 ⊢
  refine Inv.wpL_fn (args := ?_) rfl rfl rfl rfl rfl rfl (by kernel_rfl) (by kernel_rfl) ?_ (fun K hK => ?_)
  rotate_left
  ·go_simp; rfl
  refine (ref_Texts w6 p1 (some ⟨b1, 0, none⟩) c1 1 [[100, 98, 58, 32, 109, 50, 32, 114, 101, 97, 100, 121]] [[100, 98, 58, 32, 109, 50, 32, 114, 101, 97, 100, 121]] F1.out S1.out (by decide) (by decide)).mono ?_
  rintro _ w5 ⟨r5, rfl, g5, h5⟩
  rcases h5.cases with ⟨rfl, _⟩ | ⟨_, k1⟩
  rotate_left
  ·exact absurd rfl k1
  have G5 := G1.trans g5
  clear h5 g5 F1 S1
  refine ⟨_, rfl, G5, ?_⟩
  go_simp
  refine hK _ _ ?_
  clear hK K
  repeat (refine Inv.wpL_read (v := ?_) rfl rfl (fun w' hg => ?_) (fun K hK => ?_); rotate_left; (go_simp; rfl); go_simp; refine hK _ _ ?_; clear hK K)
  refine Inv.wpL_two ?_ ?_
  ·refine Inv.wpL_fn (args := ?_) rfl rfl rfl rfl rfl rfl (by kernel_rfl) (by kernel_rfl) ?_ (fun K hK => ?_)
   rotate_left
   ·go_simp; rfl
   refine (plc_Format w5 P M pq cq Lq (HM.out.grow G5) HF.out (HT.out.grow G5) (HQ.out.grow G5) FQ.out.1).mono ?_
   rintro _ w2 ⟨r2, rfl, g2, h2⟩
   obtain ⟨p2, c2, hr2, hs2⟩ := form_yes h2 (by rw [UQ.out, ← HMM.out]; exact ex_ok2 q) (by rw [UQ.out, ← HMM.out]; exact ex_lines2 q)
   subst hr2
   have G2 := G5.trans g2
   have F2 := Lib.hid hs2
   clear h2 hs2 g2
   refine ⟨_, rfl, G2, ?_⟩
   go_simp
   refine hK _ _ ?_
   clear hK K
   refine Inv.wpL_val (v := ?_) (w' := ?_) rfl rfl ?_ ?_ (fun K hK => ?_)
   rotate_left 2
   ·go_simp; first | rfl | (constructor <;> rfl)
   ·exact (G2).alloc _
   go_simp
   refine hK _ _ ?_
   clear hK K
   have B := SlL.new w2 9 encS_len [[100, 98, 58, 32, 109, 49, 32, 108, 111, 97, 100, 105, 110, 103, 44, 32, 109, 50, 32, 114, 101, 97, 100, 121]] #[.string ⟨#[100, 98, 58, 32, 109, 49, 32, 108, 111, 97, 100, 105, 110, 103, 44, 32, 109, 50, 32, 114, 101, 97, 100, 121]⟩] 1 rfl rfl (by decide)
   have G2 := (G2).trans B.1
   have S2 := Lib.hid B.2
   have GB := Lib.hid B.1
   clear B
   have F2 := Lib.hid (SlL.grow F2.out GB.out)
   generalize w2.alloc _ = w7 at F2 S2 G2 ⊢
   generalize w2.heap.size = b2 at S2 ⊢
   refine Inv.wpL_fn (args := ?_) rfl rfl rfl rfl rfl rfl (by kernel_rfl) (by kernel_rfl) ?_ (fun K hK => ?_)
   rotate_left
   ·go_simp; rfl
   refine (ref_Texts w7 p2 (some ⟨b2, 0, none⟩) c2 1 [[100, 98, 58, 32, 109, 49, 32, 108, 111, 97, 100, 105, 110, 103, 44, 32, 109, 50, 32, 114, 101, 97, 100, 121]] [[100, 98, 58, 32, 109, 49, 32, 108, 111, 97, 100, 105, 110, 103, 44, 32, 109, 50, 32, 114, 101, 97, 100, 121]] F2.out S2.out (by decide) (by decide)).mono ?_
   rintro _ w8 ⟨r8, rfl, g8, h8⟩
   rcases h8.cases with ⟨rfl, _⟩ | ⟨_, k1⟩
   rotate_left
   ·exact absurd rfl k1
   have G8 := G2.trans g8
   clear h8 g8 F2 S2
   refine ⟨_, rfl, G8, ?_⟩
   go_simp
   refine hK _ _ ?_
   clear hK K
   repeat (refine Inv.wpL_read (v := ?_) rfl rfl (fun w' hg => ?_) (fun K hK => ?_); rotate_left; (go_simp; rfl); go_simp; refine hK _ _ ?_; clear hK K)
   refine Inv.wpL_fn (args := ?_) rfl rfl rfl rfl rfl rfl (by kernel_rfl) (by kernel_rfl) ?_ (fun K hK => ?_)
   rotate_left
   ·go_simp; rfl
   refine (plc_Load w8 P M pq cq Lq 1 (HM.out.grow G8) HF.out (HQ.out.grow G8) FQ.out.1).mono ?_
   rintro _ w9 ⟨_, rfl, g9, rfl⟩
   have G9 := G8.trans g9
   rw [show loadP M (usOf Lq) 1 M.items.length = 4 from by rw [UQ.out, ← HMM.out]; exact ex_load q]
   refine ⟨_, rfl, G9, ?_⟩
   go_simp
   refine hK _ _ ?_
   clear hK K
   repeat (refine Inv.wpL_read (v := ?_) rfl rfl (fun w' hg => ?_) (fun K hK => ?_); rotate_left; (go_simp; rfl); go_simp; refine hK _ _ ?_; clear hK K)
   refine Inv.wpL_fn (args := ?_) rfl rfl rfl rfl rfl rfl (by kernel_rfl) (by kernel_rfl) ?_ (fun K hK => ?_)
   rotate_left
   ·go_simp; rfl
   refine (plc_Dark w9 P M pq cq Lq 1 (HM.out.grow G9) HF.out (HQ.out.grow G9) FQ.out.1).mono ?_
   rintro _ w10 ⟨_, rfl, g10, rfl⟩
   have G10 := G9.trans g10
   rw [show darkP M (usOf Lq) 1 = 2 from by rw [UQ.out, ← HMM.out]; exact ex_dark q]
   refine ⟨_, rfl, G10, ?_⟩
   go_simp
   refine hK _ _ ?_
   clear hK K
   repeat (refine Inv.wpL_read (v := ?_) rfl rfl (fun w' hg => ?_) (fun K hK => ?_); rotate_left; (go_simp; rfl); go_simp; refine hK _ _ ?_; clear hK K)
   refine Inv.wpL_fn (args := ?_) rfl rfl rfl rfl rfl rfl (by kernel_rfl) (by kernel_rfl) ?_ (fun K hK => ?_)
   rotate_left
   ·go_simp; rfl
   refine (plc_Drop w10 pq cq Lq 1 1 (HQ.out.grow G10) FQ.out.1).mono ?_
   rintro _ w11 ⟨_, rfl, g11, pd, cd, Ld, rfl, hd, hud⟩
   have G11 := G10.trans g11
   have HD := Lib.hid hd.at'
   have UD := Lib.hid (show usOf Ld = [[⟨2, 0⟩]] from by rw [hud, UQ.out, ex_drop])
   clear hd hud
   unfold plcV
   refine ⟨_, rfl, G11, ?_⟩
   go_simp
   refine hK _ _ ?_
   clear hK K
   repeat (refine Inv.wpL_read (v := ?_) rfl rfl (fun w' hg => ?_) (fun K hK => ?_); rotate_left; (go_simp; rfl); go_simp; refine hK _ _ ?_; clear hK K)
   refine Inv.wpL_fn (args := ?_) rfl rfl rfl rfl rfl rfl (by kernel_rfl) (by kernel_rfl) ?_ (fun K hK => ?_)
   rotate_left
   ·go_simp; rfl
   refine (plc_Same w11 pd pp cd cp Ld Lp HD.out (HP.out.grow G11) (by rw [UD.out]; exact (ex_few (.inl rfl)).1) FP.out.1).mono ?_
   rintro _ w12 ⟨r12, rfl, g12, h12⟩
   rcases h12.cases with ⟨rfl, _⟩ | ⟨_, k1⟩
   rotate_left
   ·exact absurd (by rw [UD.out, UP.out]) k1
   have G12 := G11.trans g12
   clear h12
   refine ⟨_, rfl, G12, ?_⟩
   go_simp
   refine hK _ _ ?_
   clear hK K
   repeat (refine Inv.wpL_read (v := ?_) rfl rfl (fun w' hg => ?_) (fun K hK => ?_); rotate_left; (go_simp; rfl); go_simp; refine hK _ _ ?_; clear hK K)
   refine Inv.wpL_fn (args := ?_) rfl rfl rfl rfl rfl rfl (by kernel_rfl) (by kernel_rfl) ?_ (fun K hK => ?_)
   rotate_left
   ·go_simp; rfl
   refine (plc_Calm w12 pp cp Lp (HP.out.grow G12) FP.out.1).mono ?_
   rintro _ w13 ⟨r13, rfl, g13, h13⟩
   rcases h13.cases with ⟨rfl, _⟩ | ⟨_, k1⟩
   rotate_left
   ·exact absurd (by rw [UP.out]; intro l hl u hu; simp at hl; subst hl; simp at hu; subst hu; rfl) k1
   have G13 := G12.trans g13
   clear h13
   refine ⟨_, rfl, G13, ?_⟩
   go_simp
   refine hK _ _ ?_
   clear hK K
   repeat (refine Inv.wpL_read (v := ?_) rfl rfl (fun w' hg => ?_) (fun K hK => ?_); rotate_left; (go_simp; rfl); go_simp; refine hK _ _ ?_; clear hK K)
   refine Inv.wpL_fn (args := ?_) rfl rfl rfl rfl rfl rfl (by kernel_rfl) (by kernel_rfl) ?_ (fun K hK => ?_)
   rotate_left
   ·go_simp; rfl
   refine (plc_Calm w13 pq cq Lq (HQ.out.grow G13) FQ.out.1).mono ?_
   rintro _ w14 ⟨r14, rfl, g14, h14⟩
   rcases h14.cases with ⟨_, k1⟩ | ⟨rfl, _⟩
   ·exact absurd (k1 [⟨1, 1⟩, ⟨2, 0⟩] (by rw [UQ.out]; simp) ⟨1, 1⟩ (by simp)) (by decide)
   have G14 := G13.trans g14
   clear h14
   refine ⟨_, rfl, G14, ?_⟩
   go_simp
   refine hK _ _ ?_
   clear hK K
   repeat (refine Inv.wpL_read (v := ?_) rfl rfl (fun w' hg => ?_) (fun K hK => ?_); rotate_left; (go_simp; rfl); go_simp; refine hK _ _ ?_; clear hK K)
   refine Inv.wpL_stop ?_
   have G := Lib.hid (G.out.trans G14)
   clear m0 m1 m2 m3 m4 m5 m6 m7 m8 m9 m10
   clear s0 s1
   go_wp2_with fail
   go_ret
   exact ⟨_, rfl, G.out, rfl⟩
  ·refine Inv.wpL_val (v := ?_) (w' := ?_) rfl rfl ?_ ?_ (fun K hK => ?_)
   rotate_left 2
   ·go_simp; first | rfl | (constructor <;> rfl)
   ·exact (G5).alloc _
   go_simp
   refine hK _ _ ?_
   clear hK K
   have B := SlL.new w5 9 encS_len [[100, 98, 58, 32, 109, 49, 32, 108, 111, 97, 100, 105, 110, 103, 44, 32, 109, 50, 32, 114, 101, 97, 100, 121]] #[.string ⟨#[100, 98, 58, 32, 109, 49, 32, 108, 111, 97, 100, 105, 110, 103, 44, 32, 109, 50, 32, 114, 101, 97, 100, 121]⟩] 1 rfl rfl (by decide)
   have G2 := (G5).trans B.1
   have S2 := Lib.hid B.2
   have GB := Lib.hid B.1
   clear B
   generalize w5.alloc _ = w7 at S2 G2 GB ⊢
   generalize w5.heap.size = b2 at S2 ⊢
   have S2' := S2
   clear S2 G5
   have G6 := G2
   clear G2
   refine Inv.wpL_fn (args := ?_) rfl rfl rfl rfl rfl rfl (by kernel_rfl) (by kernel_rfl) ?_ (fun K hK => ?_)
   rotate_left
   ·go_simp; rfl
   refine (plc_Format w7 P M pq cq Lq (HM.out.grow G6) HF.out (HT.out.grow G6) (HQ.out.grow G6) FQ.out.1).mono ?_
   rintro _ w2 ⟨r2, rfl, g2, h2⟩
   obtain ⟨p2, c2, hr2, hs2⟩ := form_yes h2 (by rw [UQ.out, ← HMM.out]; exact ex_ok2 q) (by rw [UQ.out, ← HMM.out]; exact ex_lines2 q)
   subst hr2
   have G2 := G6.trans g2
   have F2 := Lib.hid hs2
   have S2 := Lib.hid (SlL.grow S2'.out g2)
   clear h2 hs2 g2 S2'
   refine ⟨_, rfl, G2, ?_⟩
   go_simp
   refine hK _ _ ?_
   clear hK K
   refine Inv.wpL_fn (args := ?_) rfl rfl rfl rfl rfl rfl (by kernel_rfl) (by kernel_rfl) ?_ (fun K hK => ?_)
   rotate_left
   ·go_simp; rfl
   refine (ref_Texts w2 p2 (some ⟨b2, 0, none⟩) c2 1 [[100, 98, 58, 32, 109, 49, 32, 108, 111, 97, 100, 105, 110, 103, 44, 32, 109, 50, 32, 114, 101, 97, 100, 121]] [[100, 98, 58, 32, 109, 49, 32, 108, 111, 97, 100, 105, 110, 103, 44, 32, 109, 50, 32, 114, 101, 97, 100, 121]] F2.out S2.out (by decide) (by decide)).mono ?_
   rintro _ w8 ⟨r8, rfl, g8, h8⟩
   rcases h8.cases with ⟨rfl, _⟩ | ⟨_, k1⟩
   rotate_left
   ·exact absurd rfl k1
   have G8 := G2.trans g8
   clear h8 g8 F2 S2
   refine ⟨_, rfl, G8, ?_⟩
   go_simp
   refine hK _ _ ?_
   clear hK K
   repeat (refine Inv.wpL_read (v := ?_) rfl rfl (fun w' hg => ?_) (fun K hK => ?_); rotate_left; (go_simp; rfl); go_simp; refine hK _ _ ?_; clear hK K)
   refine Inv.wpL_fn (args := ?_) rfl rfl rfl rfl rfl rfl (by kernel_rfl) (by kernel_rfl) ?_ (fun K hK => ?_)
   rotate_left
   ·go_simp; rfl
   refine (plc_Load w8 P M pq cq Lq 1 (HM.out.grow G8) HF.out (HQ.out.grow G8) FQ.out.1).mono ?_
   rintro _ w9 ⟨_, rfl, g9, rfl⟩
   have G9 := G8.trans g9
   rw [show loadP M (usOf Lq) 1 M.items.length = 4 from by rw [UQ.out, ← HMM.out]; exact ex_load q]
   refine ⟨_, rfl, G9, ?_⟩
   go_simp
   refine hK _ _ ?_
   clear hK K
   repeat (refine Inv.wpL_read (v := ?_) rfl rfl (fun w' hg => ?_) (fun K hK => ?_); rotate_left; (go_simp; rfl); go_simp; refine hK _ _ ?_; clear hK K)
   refine Inv.wpL_fn (args := ?_) rfl rfl rfl rfl rfl rfl (by kernel_rfl) (by kernel_rfl) ?_ (fun K hK => ?_)
   rotate_left
   ·go_simp; rfl
   refine (plc_Dark w9 P M pq cq Lq 1 (HM.out.grow G9) HF.out (HQ.out.grow G9) FQ.out.1).mono ?_
   rintro _ w10 ⟨_, rfl, g10, rfl⟩
   have G10 := G9.trans g10
   rw [show darkP M (usOf Lq) 1 = 2 from by rw [UQ.out, ← HMM.out]; exact ex_dark q]
   refine ⟨_, rfl, G10, ?_⟩
   go_simp
   refine hK _ _ ?_
   clear hK K
   repeat (refine Inv.wpL_read (v := ?_) rfl rfl (fun w' hg => ?_) (fun K hK => ?_); rotate_left; (go_simp; rfl); go_simp; refine hK _ _ ?_; clear hK K)
   refine Inv.wpL_fn (args := ?_) rfl rfl rfl rfl rfl rfl (by kernel_rfl) (by kernel_rfl) ?_ (fun K hK => ?_)
   rotate_left
   ·go_simp; rfl
   refine (plc_Drop w10 pq cq Lq 1 1 (HQ.out.grow G10) FQ.out.1).mono ?_
   rintro _ w11 ⟨_, rfl, g11, pd, cd, Ld, rfl, hd, hud⟩
   have G11 := G10.trans g11
   have HD := Lib.hid hd.at'
   have UD := Lib.hid (show usOf Ld = [[⟨2, 0⟩]] from by rw [hud, UQ.out, ex_drop])
   clear hd hud
   unfold plcV
   refine ⟨_, rfl, G11, ?_⟩
   go_simp
   refine hK _ _ ?_
   clear hK K
   repeat (refine Inv.wpL_read (v := ?_) rfl rfl (fun w' hg => ?_) (fun K hK => ?_); rotate_left; (go_simp; rfl); go_simp; refine hK _ _ ?_; clear hK K)
   refine Inv.wpL_fn (args := ?_) rfl rfl rfl rfl rfl rfl (by kernel_rfl) (by kernel_rfl) ?_ (fun K hK => ?_)
   rotate_left
   ·go_simp; rfl
   refine (plc_Same w11 pd pp cd cp Ld Lp HD.out (HP.out.grow G11) (by rw [UD.out]; exact (ex_few (.inl rfl)).1) FP.out.1).mono ?_
   rintro _ w12 ⟨r12, rfl, g12, h12⟩
   rcases h12.cases with ⟨rfl, _⟩ | ⟨_, k1⟩
   rotate_left
   ·exact absurd (by rw [UD.out, UP.out]) k1
   have G12 := G11.trans g12
   clear h12
   refine ⟨_, rfl, G12, ?_⟩
   go_simp
   refine hK _ _ ?_
   clear hK K
   repeat (refine Inv.wpL_read (v := ?_) rfl rfl (fun w' hg => ?_) (fun K hK => ?_); rotate_left; (go_simp; rfl); go_simp; refine hK _ _ ?_; clear hK K)
   refine Inv.wpL_fn (args := ?_) rfl rfl rfl rfl rfl rfl (by kernel_rfl) (by kernel_rfl) ?_ (fun K hK => ?_)
   rotate_left
   ·go_simp; rfl
   refine (plc_Calm w12 pp cp Lp (HP.out.grow G12) FP.out.1).mono ?_
   rintro _ w13 ⟨r13, rfl, g13, h13⟩
   rcases h13.cases with ⟨rfl, _⟩ | ⟨_, k1⟩
   rotate_left
   ·exact absurd (by rw [UP.out]; intro l hl u hu; simp at hl; subst hl; simp at hu; subst hu; rfl) k1
   have G13 := G12.trans g13
   clear h13
   refine ⟨_, rfl, G13, ?_⟩
   go_simp
   refine hK _ _ ?_
   clear hK K
   repeat (refine Inv.wpL_read (v := ?_) rfl rfl (fun w' hg => ?_) (fun K hK => ?_); rotate_left; (go_simp; rfl); go_simp; refine hK _ _ ?_; clear hK K)
   refine Inv.wpL_fn (args := ?_) rfl rfl rfl rfl rfl rfl (by kernel_rfl) (by kernel_rfl) ?_ (fun K hK => ?_)
   rotate_left
   ·go_simp; rfl
   refine (plc_Calm w13 pq cq Lq (HQ.out.grow G13) FQ.out.1).mono ?_
   rintro _ w14 ⟨r14, rfl, g14, h14⟩
   rcases h14.cases with ⟨_, k1⟩ | ⟨rfl, _⟩
   ·exact absurd (k1 [⟨1, 1⟩, ⟨2, 0⟩] (by rw [UQ.out]; simp) ⟨1, 1⟩ (by simp)) (by decide)
   have G14 := G13.trans g14
   clear h14
   refine ⟨_, rfl, G14, ?_⟩
   go_simp
   refine hK _ _ ?_
   clear hK K
   repeat (refine Inv.wpL_read (v := ?_) rfl rfl (fun w' hg => ?_) (fun K hK => ?_); rotate_left; (go_simp; rfl); go_simp; refine hK _ _ ?_; clear hK K)
   refine Inv.wpL_stop ?_
   have G := Lib.hid (G.out.trans G14)
   clear m0 m1 m2 m3 m4 m5 m6 m7 m8 m9 m10
   clear s0 s1
   go_wp2_with fail
   go_ret
   exact ⟨_, rfl, G.out, rfl⟩
 ·refine Inv.wpL_val (v := ?_) (w' := ?_) rfl rfl ?_ ?_ (fun K hK => ?_)
  rotate_left 2
  ·go_simp; first | rfl | (constructor <;> rfl)
  ·exact (hI0).alloc _
  go_simp
  refine hK _ _ ?_
  clear hK K
  have B := SlL.new W4 9 encS_len [[100, 98, 58, 32, 109, 50, 32, 114, 101, 97, 100, 121]] #[.string ⟨#[100, 98, 58, 32, 109, 50, 32, 114, 101, 97, 100, 121]⟩] 1 rfl rfl (by decide)
  have G2 := (hI0).trans B.1
  have S2 := Lib.hid B.2
  have GB := Lib.hid B.1
  clear B
  generalize W4.alloc _ = w6 at S2 G2 GB ⊢
  generalize W4.heap.size = b1 at S2 ⊢
  have S2' := S2
  have G6 := G2
  clear S2 G2 hI0
  refine Inv.wpL_fn (args := ?_) rfl rfl rfl rfl rfl rfl (by kernel_rfl) (by kernel_rfl) ?_ (fun K hK => ?_)
  rotate_left
  ·go_simp; rfl
  refine (plc_Format w6 P M pp cp Lp (HM.out.grow G6) HF.out (HT.out.grow G6) (HP.out.grow G6) FP.out.1).mono ?_
  rintro _ w1 ⟨r1, rfl, g1, h1⟩
  obtain ⟨p1, c1, hr1, hs1⟩ := form_yes h1 (by rw [UP.out, ← HMM.out]; exact ex_ok1 q) (by rw [UP.out, ← HMM.out]; exact ex_lines1 q)
  subst hr1
  have G1 := G6.trans g1
  have F1 := Lib.hid hs1
  have S1 := Lib.hid (SlL.grow S2'.out g1)
  clear h1 hs1 g1 S2'
  refine ⟨_, rfl, G1, ?_⟩
  go_simp
  refine hK _ _ ?_
  clear hK K
  refine Inv.wpL_fn (args := ?_) rfl rfl rfl rfl rfl rfl (by kernel_rfl) (by kernel_rfl) ?_ (fun K hK => ?_)
  rotate_left
  ·go_simp; rfl
  refine (ref_Texts w1 p1 (some ⟨b1, 0, none⟩) c1 1 [[100, 98, 58, 32, 109, 50, 32, 114, 101, 97, 100, 121]] [[100, 98, 58, 32, 109, 50, 32, 114, 101, 97, 100, 121]] F1.out S1.out (by decide) (by decide)).mono ?_
  rintro _ w5 ⟨r5, rfl, g5, h5⟩
  rcases h5.cases with ⟨rfl, _⟩ | ⟨_, k1⟩
  rotate_left
  ·exact absurd rfl k1
  have G5 := G1.trans g5
  clear h5 g5 F1 S1
  refine ⟨_, rfl, G5, ?_⟩
  go_simp
  refine hK _ _ ?_
  clear hK K
  repeat (refine Inv.wpL_read (v := ?_) rfl rfl (fun w' hg => ?_) (fun K hK => ?_); rotate_left; (go_simp; rfl); go_simp; refine hK _ _ ?_; clear hK K)
  refine Inv.wpL_two ?_ ?_
  ·refine Inv.wpL_fn (args := ?_) rfl rfl rfl rfl rfl rfl (by kernel_rfl) (by kernel_rfl) ?_ (fun K hK => ?_)
   rotate_left
   ·go_simp; rfl
   refine (plc_Format w5 P M pq cq Lq (HM.out.grow G5) HF.out (HT.out.grow G5) (HQ.out.grow G5) FQ.out.1).mono ?_
   rintro _ w2 ⟨r2, rfl, g2, h2⟩
   obtain ⟨p2, c2, hr2, hs2⟩ := form_yes h2 (by rw [UQ.out, ← HMM.out]; exact ex_ok2 q) (by rw [UQ.out, ← HMM.out]; exact ex_lines2 q)
   subst hr2
   have G2 := G5.trans g2
   have F2 := Lib.hid hs2
   clear h2 hs2 g2
   refine ⟨_, rfl, G2, ?_⟩
   go_simp
   refine hK _ _ ?_
   clear hK K
   refine Inv.wpL_val (v := ?_) (w' := ?_) rfl rfl ?_ ?_ (fun K hK => ?_)
   rotate_left 2
   ·go_simp; first | rfl | (constructor <;> rfl)
   ·exact (G2).alloc _
   go_simp
   refine hK _ _ ?_
   clear hK K
   have B := SlL.new w2 9 encS_len [[100, 98, 58, 32, 109, 49, 32, 108, 111, 97, 100, 105, 110, 103, 44, 32, 109, 50, 32, 114, 101, 97, 100, 121]] #[.string ⟨#[100, 98, 58, 32, 109, 49, 32, 108, 111, 97, 100, 105, 110, 103, 44, 32, 109, 50, 32, 114, 101, 97, 100, 121]⟩] 1 rfl rfl (by decide)
   have G2 := (G2).trans B.1
   have S2 := Lib.hid B.2
   have GB := Lib.hid B.1
   clear B
   have F2 := Lib.hid (SlL.grow F2.out GB.out)
   generalize w2.alloc _ = w7 at F2 S2 G2 ⊢
   generalize w2.heap.size = b2 at S2 ⊢
   refine Inv.wpL_fn (args := ?_) rfl rfl rfl rfl rfl rfl (by kernel_rfl) (by kernel_rfl) ?_ (fun K hK => ?_)
   rotate_left
   ·go_simp; rfl
   refine (ref_Texts w7 p2 (some ⟨b2, 0, none⟩) c2 1 [[100, 98, 58, 32, 109, 49, 32, 108, 111, 97, 100, 105, 110, 103, 44, 32, 109, 50, 32, 114, 101, 97, 100, 121]] [[100, 98, 58, 32, 109, 49, 32, 108, 111, 97, 100, 105, 110, 103, 44, 32, 109, 50, 32, 114, 101, 97, 100, 121]] F2.out S2.out (by decide) (by decide)).mono ?_
   rintro _ w8 ⟨r8, rfl, g8, h8⟩
   rcases h8.cases with ⟨rfl, _⟩ | ⟨_, k1⟩
   rotate_left
   ·exact absurd rfl k1
   have G8 := G2.trans g8
   clear h8 g8 F2 S2
   refine ⟨_, rfl, G8, ?_⟩
   go_simp
   refine hK _ _ ?_
   clear hK K
   repeat (refine Inv.wpL_read (v := ?_) rfl rfl (fun w' hg => ?_) (fun K hK => ?_); rotate_left; (go_simp; rfl); go_simp; refine hK _ _ ?_; clear hK K)
   refine Inv.wpL_fn (args := ?_) rfl rfl rfl rfl rfl rfl (by kernel_rfl) (by kernel_rfl) ?_ (fun K hK => ?_)
   rotate_left
   ·go_simp; rfl
   refine (plc_Load w8 P M pq cq Lq 1 (HM.out.grow G8) HF.out (HQ.out.grow G8) FQ.out.1).mono ?_
   rintro _ w9 ⟨_, rfl, g9, rfl⟩
   have G9 := G8.trans g9
   rw [show loadP M (usOf Lq) 1 M.items.length = 4 from by rw [UQ.out, ← HMM.out]; exact ex_load q]
   refine ⟨_, rfl, G9, ?_⟩
   go_simp
   refine hK _ _ ?_
   clear hK K
   repeat (refine Inv.wpL_read (v := ?_) rfl rfl (fun w' hg => ?_) (fun K hK => ?_); rotate_left; (go_simp; rfl); go_simp; refine hK _ _ ?_; clear hK K)
   refine Inv.wpL_fn (args := ?_) rfl rfl rfl rfl rfl rfl (by kernel_rfl) (by kernel_rfl) ?_ (fun K hK => ?_)
   rotate_left
   ·go_simp; rfl
   refine (plc_Dark w9 P M pq cq Lq 1 (HM.out.grow G9) HF.out (HQ.out.grow G9) FQ.out.1).mono ?_
   rintro _ w10 ⟨_, rfl, g10, rfl⟩
   have G10 := G9.trans g10
   rw [show darkP M (usOf Lq) 1 = 2 from by rw [UQ.out, ← HMM.out]; exact ex_dark q]
   refine ⟨_, rfl, G10, ?_⟩
   go_simp
   refine hK _ _ ?_
   clear hK K
   repeat (refine Inv.wpL_read (v := ?_) rfl rfl (fun w' hg => ?_) (fun K hK => ?_); rotate_left; (go_simp; rfl); go_simp; refine hK _ _ ?_; clear hK K)
   refine Inv.wpL_fn (args := ?_) rfl rfl rfl rfl rfl rfl (by kernel_rfl) (by kernel_rfl) ?_ (fun K hK => ?_)
   rotate_left
   ·go_simp; rfl
   refine (plc_Drop w10 pq cq Lq 1 1 (HQ.out.grow G10) FQ.out.1).mono ?_
   rintro _ w11 ⟨_, rfl, g11, pd, cd, Ld, rfl, hd, hud⟩
   have G11 := G10.trans g11
   have HD := Lib.hid hd.at'
   have UD := Lib.hid (show usOf Ld = [[⟨2, 0⟩]] from by rw [hud, UQ.out, ex_drop])
   clear hd hud
   unfold plcV
   refine ⟨_, rfl, G11, ?_⟩
   go_simp
   refine hK _ _ ?_
   clear hK K
   repeat (refine Inv.wpL_read (v := ?_) rfl rfl (fun w' hg => ?_) (fun K hK => ?_); rotate_left; (go_simp; rfl); go_simp; refine hK _ _ ?_; clear hK K)
   refine Inv.wpL_fn (args := ?_) rfl rfl rfl rfl rfl rfl (by kernel_rfl) (by kernel_rfl) ?_ (fun K hK => ?_)
   rotate_left
   ·go_simp; rfl
   refine (plc_Same w11 pd pp cd cp Ld Lp HD.out (HP.out.grow G11) (by rw [UD.out]; exact (ex_few (.inl rfl)).1) FP.out.1).mono ?_
   rintro _ w12 ⟨r12, rfl, g12, h12⟩
   rcases h12.cases with ⟨rfl, _⟩ | ⟨_, k1⟩
   rotate_left
   ·exact absurd (by rw [UD.out, UP.out]) k1
   have G12 := G11.trans g12
   clear h12
   refine ⟨_, rfl, G12, ?_⟩
   go_simp
   refine hK _ _ ?_
   clear hK K
   repeat (refine Inv.wpL_read (v := ?_) rfl rfl (fun w' hg => ?_) (fun K hK => ?_); rotate_left; (go_simp; rfl); go_simp; refine hK _ _ ?_; clear hK K)
   refine Inv.wpL_fn (args := ?_) rfl rfl rfl rfl rfl rfl (by kernel_rfl) (by kernel_rfl) ?_ (fun K hK => ?_)
   rotate_left
   ·go_simp; rfl
   refine (plc_Calm w12 pp cp Lp (HP.out.grow G12) FP.out.1).mono ?_
   rintro _ w13 ⟨r13, rfl, g13, h13⟩
   rcases h13.cases with ⟨rfl, _⟩ | ⟨_, k1⟩
   rotate_left
   ·exact absurd (by rw [UP.out]; intro l hl u hu; simp at hl; subst hl; simp at hu; subst hu; rfl) k1
   have G13 := G12.trans g13
   clear h13
   refine ⟨_, rfl, G13, ?_⟩
   go_simp
   refine hK _ _ ?_
   clear hK K
   repeat (refine Inv.wpL_read (v := ?_) rfl rfl (fun w' hg => ?_) (fun K hK => ?_); rotate_left; (go_simp; rfl); go_simp; refine hK _ _ ?_; clear hK K)
   refine Inv.wpL_fn (args := ?_) rfl rfl rfl rfl rfl rfl (by kernel_rfl) (by kernel_rfl) ?_ (fun K hK => ?_)
   rotate_left
   ·go_simp; rfl
   refine (plc_Calm w13 pq cq Lq (HQ.out.grow G13) FQ.out.1).mono ?_
   rintro _ w14 ⟨r14, rfl, g14, h14⟩
   rcases h14.cases with ⟨_, k1⟩ | ⟨rfl, _⟩
   ·exact absurd (k1 [⟨1, 1⟩, ⟨2, 0⟩] (by rw [UQ.out]; simp) ⟨1, 1⟩ (by simp)) (by decide)
   have G14 := G13.trans g14
   clear h14
   refine ⟨_, rfl, G14, ?_⟩
   go_simp
   refine hK _ _ ?_
   clear hK K
   repeat (refine Inv.wpL_read (v := ?_) rfl rfl (fun w' hg => ?_) (fun K hK => ?_); rotate_left; (go_simp; rfl); go_simp; refine hK _ _ ?_; clear hK K)
   refine Inv.wpL_stop ?_
   have G := Lib.hid (G.out.trans G14)
   clear m0 m1 m2 m3 m4 m5 m6 m7 m8 m9 m10
   clear s0 s1
   go_wp2_with fail
   go_ret
   exact ⟨_, rfl, G.out, rfl⟩
  ·refine Inv.wpL_val (v := ?_) (w' := ?_) rfl rfl ?_ ?_ (fun K hK => ?_)
   rotate_left 2
   ·go_simp; first | rfl | (constructor <;> rfl)
   ·exact (G5).alloc _
   go_simp
   refine hK _ _ ?_
   clear hK K
   have B := SlL.new w5 9 encS_len [[100, 98, 58, 32, 109, 49, 32, 108, 111, 97, 100, 105, 110, 103, 44, 32, 109, 50, 32, 114, 101, 97, 100, 121]] #[.string ⟨#[100, 98, 58, 32, 109, 49, 32, 108, 111, 97, 100, 105, 110, 103, 44, 32, 109, 50, 32, 114, 101, 97, 100, 121]⟩] 1 rfl rfl (by decide)
   have G2 := (G5).trans B.1
   have S2 := Lib.hid B.2
   have GB := Lib.hid B.1
   clear B
   generalize w5.alloc _ = w7 at S2 G2 GB ⊢
   generalize w5.heap.size = b2 at S2 ⊢
   have S2' := S2
   clear S2 G5
   have G6 := G2
   clear G2
   refine Inv.wpL_fn (args := ?_) rfl rfl rfl rfl rfl rfl (by kernel_rfl) (by kernel_rfl) ?_ (fun K hK => ?_)
   rotate_left
   ·go_simp; rfl
   refine (plc_Format w7 P M pq cq Lq (HM.out.grow G6) HF.out (HT.out.grow G6) (HQ.out.grow G6) FQ.out.1).mono ?_
   rintro _ w2 ⟨r2, rfl, g2, h2⟩
   obtain ⟨p2, c2, hr2, hs2⟩ := form_yes h2 (by rw [UQ.out, ← HMM.out]; exact ex_ok2 q) (by rw [UQ.out, ← HMM.out]; exact ex_lines2 q)
   subst hr2
   have G2 := G6.trans g2
   have F2 := Lib.hid hs2
   have S2 := Lib.hid (SlL.grow S2'.out g2)
   clear h2 hs2 g2 S2'
   refine ⟨_, rfl, G2, ?_⟩
   go_simp
   refine hK _ _ ?_
   clear hK K
   refine Inv.wpL_fn (args := ?_) rfl rfl rfl rfl rfl rfl (by kernel_rfl) (by kernel_rfl) ?_ (fun K hK => ?_)
   rotate_left
   ·go_simp; rfl
   refine (ref_Texts w2 p2 (some ⟨b2, 0, none⟩) c2 1 [[100, 98, 58, 32, 109, 49, 32, 108, 111, 97, 100, 105, 110, 103, 44, 32, 109, 50, 32, 114, 101, 97, 100, 121]] [[100, 98, 58, 32, 109, 49, 32, 108, 111, 97, 100, 105, 110, 103, 44, 32, 109, 50, 32, 114, 101, 97, 100, 121]] F2.out S2.out (by decide) (by decide)).mono ?_
   rintro _ w8 ⟨r8, rfl, g8, h8⟩
   rcases h8.cases with ⟨rfl, _⟩ | ⟨_, k1⟩
   rotate_left
   ·exact absurd rfl k1
   have G8 := G2.trans g8
   clear h8 g8 F2 S2
   refine ⟨_, rfl, G8, ?_⟩
   go_simp
   refine hK _ _ ?_
   clear hK K
   repeat (refine Inv.wpL_read (v := ?_) rfl rfl (fun w' hg => ?_) (fun K hK => ?_); rotate_left; (go_simp; rfl); go_simp; refine hK _ _ ?_; clear hK K)
   refine Inv.wpL_fn (args := ?_) rfl rfl rfl rfl rfl rfl (by kernel_rfl) (by kernel_rfl) ?_ (fun K hK => ?_)
   rotate_left
   ·go_simp; rfl
   refine (plc_Load w8 P M pq cq Lq 1 (HM.out.grow G8) HF.out (HQ.out.grow G8) FQ.out.1).mono ?_
   rintro _ w9 ⟨_, rfl, g9, rfl⟩
   have G9 := G8.trans g9
   rw [show loadP M (usOf Lq) 1 M.items.length = 4 from by rw [UQ.out, ← HMM.out]; exact ex_load q]
   refine ⟨_, rfl, G9, ?_⟩
   go_simp
   refine hK _ _ ?_
   clear hK K
   repeat (refine Inv.wpL_read (v := ?_) rfl rfl (fun w' hg => ?_) (fun K hK => ?_); rotate_left; (go_simp; rfl); go_simp; refine hK _ _ ?_; clear hK K)
   refine Inv.wpL_fn (args := ?_) rfl rfl rfl rfl rfl rfl (by kernel_rfl) (by kernel_rfl) ?_ (fun K hK => ?_)
   rotate_left
   ·go_simp; rfl
   refine (plc_Dark w9 P M pq cq Lq 1 (HM.out.grow G9) HF.out (HQ.out.grow G9) FQ.out.1).mono ?_
   rintro _ w10 ⟨_, rfl, g10, rfl⟩
   have G10 := G9.trans g10
   rw [show darkP M (usOf Lq) 1 = 2 from by rw [UQ.out, ← HMM.out]; exact ex_dark q]
   refine ⟨_, rfl, G10, ?_⟩
   go_simp
   refine hK _ _ ?_
   clear hK K
   repeat (refine Inv.wpL_read (v := ?_) rfl rfl (fun w' hg => ?_) (fun K hK => ?_); rotate_left; (go_simp; rfl); go_simp; refine hK _ _ ?_; clear hK K)
   refine Inv.wpL_fn (args := ?_) rfl rfl rfl rfl rfl rfl (by kernel_rfl) (by kernel_rfl) ?_ (fun K hK => ?_)
   rotate_left
   ·go_simp; rfl
   refine (plc_Drop w10 pq cq Lq 1 1 (HQ.out.grow G10) FQ.out.1).mono ?_
   rintro _ w11 ⟨_, rfl, g11, pd, cd, Ld, rfl, hd, hud⟩
   have G11 := G10.trans g11
   have HD := Lib.hid hd.at'
   have UD := Lib.hid (show usOf Ld = [[⟨2, 0⟩]] from by rw [hud, UQ.out, ex_drop])
   clear hd hud
   unfold plcV
   refine ⟨_, rfl, G11, ?_⟩
   go_simp
   refine hK _ _ ?_
   clear hK K
   repeat (refine Inv.wpL_read (v := ?_) rfl rfl (fun w' hg => ?_) (fun K hK => ?_); rotate_left; (go_simp; rfl); go_simp; refine hK _ _ ?_; clear hK K)
   refine Inv.wpL_fn (args := ?_) rfl rfl rfl rfl rfl rfl (by kernel_rfl) (by kernel_rfl) ?_ (fun K hK => ?_)
   rotate_left
   ·go_simp; rfl
   refine (plc_Same w11 pd pp cd cp Ld Lp HD.out (HP.out.grow G11) (by rw [UD.out]; exact (ex_few (.inl rfl)).1) FP.out.1).mono ?_
   rintro _ w12 ⟨r12, rfl, g12, h12⟩
   rcases h12.cases with ⟨rfl, _⟩ | ⟨_, k1⟩
   rotate_left
   ·exact absurd (by rw [UD.out, UP.out]) k1
   have G12 := G11.trans g12
   clear h12
   refine ⟨_, rfl, G12, ?_⟩
   go_simp
   refine hK _ _ ?_
   clear hK K
   repeat (refine Inv.wpL_read (v := ?_) rfl rfl (fun w' hg => ?_) (fun K hK => ?_); rotate_left; (go_simp; rfl); go_simp; refine hK _ _ ?_; clear hK K)
   refine Inv.wpL_fn (args := ?_) rfl rfl rfl rfl rfl rfl (by kernel_rfl) (by kernel_rfl) ?_ (fun K hK => ?_)
   rotate_left
   ·go_simp; rfl
   refine (plc_Calm w12 pp cp Lp (HP.out.grow G12) FP.out.1).mono ?_
   rintro _ w13 ⟨r13, rfl, g13, h13⟩
   rcases h13.cases with ⟨rfl, _⟩ | ⟨_, k1⟩
   rotate_left
   ·exact absurd (by rw [UP.out]; intro l hl u hu; simp at hl; subst hl; simp at hu; subst hu; rfl) k1
   have G13 := G12.trans g13
   clear h13
   refine ⟨_, rfl, G13, ?_⟩
   go_simp
   refine hK _ _ ?_
   clear hK K
   repeat (refine Inv.wpL_read (v := ?_) rfl rfl (fun w' hg => ?_) (fun K hK => ?_); rotate_left; (go_simp; rfl); go_simp; refine hK _ _ ?_; clear hK K)
   refine Inv.wpL_fn (args := ?_) rfl rfl rfl rfl rfl rfl (by kernel_rfl) (by kernel_rfl) ?_ (fun K hK => ?_)
   rotate_left
   ·go_simp; rfl
   refine (plc_Calm w13 pq cq Lq (HQ.out.grow G13) FQ.out.1).mono ?_
   rintro _ w14 ⟨r14, rfl, g14, h14⟩
   rcases h14.cases with ⟨_, k1⟩ | ⟨rfl, _⟩
   ·exact absurd (k1 [⟨1, 1⟩, ⟨2, 0⟩] (by rw [UQ.out]; simp) ⟨1, 1⟩ (by simp)) (by decide)
   have G14 := G13.trans g14
   clear h14
   refine ⟨_, rfl, G14, ?_⟩
   go_simp
   refine hK _ _ ?_
   clear hK K
   repeat (refine Inv.wpL_read (v := ?_) rfl rfl (fun w' hg => ?_) (fun K hK => ?_); rotate_left; (go_simp; rfl); go_simp; refine hK _ _ ?_; clear hK K)
   refine Inv.wpL_stop ?_
   have G := Lib.hid (G.out.trans G14)
   clear m0 m1 m2 m3 m4 m5 m6 m7 m8 m9 m10
   clear s0 s1
   go_wp2_with fail
   go_ret
   exact ⟨_, rfl, G.out, rfl⟩
end Go.Proofs.YtchpbaaabnkkkaaGreatDoor

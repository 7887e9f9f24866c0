/-
  catalog.each.
-/
import Derived.Test.YtdekicijinmakaaGreatDoorCatS
import Derived.Laws.EntriesVeiled
namespace Go.Proofs.YtdekicijinmakaaGreatDoor
open Go.RowKit Go.Lib Lex
set_option linter.unusedVariables false
set_option linter.unusedSimpArgs false

namespace Stir
theorem wpE_fnV {P : Program} {ops : Array Oper} {Q : Exit → Act → World → Prop} {i : Nat} {rest : List (Nat × Bool)} {a : Act} {w : World} {o : Oper} {c : Call} {x : Operand} {f : FuncId} {first caps args : Array Value}
    (ho : ops[i]? = some o) (hw : Region.wanted o (yielded ops a.tmps) = true) (hop : o.op = .call c) (hc : c.callee = .value x) (hx : a.eval x = .func (.func f) first caps)
    (he : ∀ args w, (callFunc f args).run P w = .ok (.enter f args) w) (hargs : (first ++ c.args.map a.eval) ++ caps = args)
    (h : ∀ K : Act → World → Prop, (∀ a w, wpE P ops Q rest a w → K a w) → Calls P f args w fun e w' => ∃ v, e = .returned v ∧ Gr w w' ∧ K (a.put o.dst v) w') : wpE P ops Q ((i, false) :: rest) a w :=
  wpE_call ho hw (by rw [exec_fnV hop hc hx he, hargs]) h
/-- a call that may write old memory -/
theorem wpE_fnS {P : Program} {ops : Array Oper} {Q : Exit → Act → World → Prop} {i : Nat} {rest : List (Nat × Bool)} {a : Act} {w : World} {o : Oper} {c : Call} {x : Operand} {f : FuncId} {first caps args : Array Value}
    (ho : ops[i]? = some o) (hw : Region.wanted o (yielded ops a.tmps) = true) (hop : o.op = .call c) (hc : c.callee = .value x) (hst : isStore o = true) (hx : a.eval x = .func (.func f) first caps)
    (he : ∀ args w, (callFunc f args).run P w = .ok (.enter f args) w) (hargs : (first ++ c.args.map a.eval) ++ caps = args)
    (h : ∀ K : Act → World → Prop, (∀ a w, wpE P ops Q rest a w → K a w) → Calls P f args w fun e w' => ∃ v, e = .returned v ∧ K (a.put o.dst v) w') : wpE P ops Q ((i, false) :: rest) a w := by
  refine wpE_do ho hw fun K hK => ?_
  unfold Oper.wp
  rw [exec_fnV hop hc hx he, hargs]
  simp only [Oper.upon]
  refine (h K hK).mono ?_
  rintro e w' ⟨v, rfl, hk⟩
  exact ⟨fun hf => Bool.noConfusion (hst.symm.trans hf), hk⟩
end Stir
theorem Cells.kept {w w' : World} {b : Nat} {vs : Array Value} (h : Cells w b vs) (e : w'.heap[b]? = w.heap[b]?) : Cells w' b vs := by
  obtain ⟨t, h⟩ := h
  exact ⟨t, by rw [e]; exact h⟩
set_option maxRecDepth 100000 in
set_option maxHeartbeats 1600000 in
theorem cat_each (w B : World) (P : Ptrs) (M : Mdl) (fn : FuncId) (caps : Array Value) (I : (Nat → Prop) → Nat → World → Prop) (R : World → Prop) (F0 : Nat → Prop) (hm : MdlAt B P M) (hf : Few M) (hv : Visit B fn caps (entries M) I R) (hi : I F0 0 w) :
    Calls Tryz.prog 124 #[.agg (mcells P M), .func (.func fn) #[] caps] w fun r w' => r = .returned (.tuple #[]) ∧ (R w' ∨ ∃ F, I F (entries M).length w') := by
  have HF := Lib.hid hf.1
  have HV := Lib.hid hv
  have HI := Lib.hid hi
  have HM := Lib.hid hm
  have B0 := Cells.new w (mcells P M) 29
  clear hf hv hi hm
  have m0 := mc0 B0.2 _ (Gr.refl _)
  have m1 := mc1 B0.2 _ (Gr.refl _)
  have m2 := mc2 B0.2 _ (Gr.refl _)
  have m3 := mc3 B0.2 _ (Gr.refl _)
  have m5 := mc5 B0.2 _ (Gr.refl _)
  have B1 := Cells.new (w.alloc (.cells (mcells P M) 29)) (secCells M w.heap.size) 144
  rw [World.size_alloc] at B1
  have H0 := Lib.hid (show ∃ F, I F 0 ((w.alloc (.cells (mcells P M) 29)).alloc (.cells (secCells M w.heap.size) 144)) ∧ F w.heap.size ∧ F (w.heap.size + 1) from
    ⟨_, HV.out.grow _ _ _ _ HI.out (B0.1.trans B1.1), .inr ⟨Nat.le_refl _, by simp; omega⟩, .inr ⟨Nat.le_succ _, by simp; try omega⟩⟩)
  have H1 := Lib.hid (B0.2.grow B1.1)
  have H2 := Lib.hid B1.2
  clear B0 B1 HI
  unfold mcells secCells at H0
  unfold mcells at H1 m0 m1 m2 m3 m5 ⊢
  unfold secCells at H1 H2
  unfold mcells at H2
  go_enter Tryz.func124, Tryz.ntmps124
  go_wp2_with fail
  clear m0 m1 m2 m3 m5
  generalize w.heap.size + 1 = bs at H0 H2 ⊢
  generalize w.heap.size = bm at H0 H1 H2 ⊢
  generalize (w.alloc _).alloc _ = W at H0 H1 H2 ⊢
  have H1 := Lib.hid (show Cells W bm (mcells P M) from H1.out)
  have H2 := Lib.hid (show Cells W bs (secCells M bm) from H2.out)
  go_loopw [37] (fun j w1 => ∃ (k : Nat) (F : Nat → Prop), j = .int .i64 k ∧ k ≤ 5 ∧ I F (secOff M k) w1 ∧ F bm ∧ F bs ∧ Cells w1 bm (mcells P M) ∧ Cells w1 bs (secCells M bm)) (fun j _ => 5 - (RowKit.intOf j).toNat)
  case atStart =>
    obtain ⟨F, h1, h2, h3⟩ := H0.out
    exact ⟨0, F, rfl, by omega, h1, h2, h3, H1.out, H2.out⟩
  case round =>
    clear H0 H1 H2
    obtain ⟨k, F, rfl, hk, hI, hFm, hFs, hCm, hCs⟩ := hrel
    have HI := Lib.hid hI
    have HFm := Lib.hid hFm
    have HFs := Lib.hid hFs
    have HCm := Lib.hid hCm
    have HCs := Lib.hid hCs
    clear hI hFm hFs hCm hCs
    by_cases hlt : k < 5
    · have hlt' : (k : Int) < 5 := by omega
      obtain ⟨len, f1, c1, f2, c2, sec, hlen⟩ := sec_at P M bm k hlt
      have hlen : len ≤ 24 := by have := HF.out; omega
      have s0 := HCs.out.at _ sec.v0
      have s1 := HCs.out.at _ sec.v1
      have s2 := HCs.out.at _ sec.v2
      have SEC := Lib.hid sec
      clear sec
      go_wp2_with fail
      clear s0 s1 s2
      have B6 := Cells.new wr #[.int .i64 (len : Int), .func (.func f1) #[] c1, .func (.func f2) #[] c2] 144
      have H6 := Lib.hid (show ∃ F, I F (secOff M k + 0) (wr.alloc (.cells #[.int .i64 (len : Int), .func (.func f1) #[] c1, .func (.func f2) #[] c2] 144)) ∧ F bm ∧ F bs ∧ F wr.heap.size from
        ⟨_, HV.out.grow _ _ _ _ HI.out B6.1, .inl HFm.out, .inl HFs.out, .inr ⟨Nat.le_refl _, by simp⟩⟩)
      have HCm := Lib.hid (HCm.out.grow B6.1)
      have HCs := Lib.hid (HCs.out.grow B6.1)
      have H7 := Lib.hid B6.2
      clear B6 HI HFm HFs
      generalize wr.heap.size = b6 at H6 H7 ⊢
      generalize wr.alloc _ = W6 at H6 H7 HCm HCs ⊢
      go_loopw [43] (fun j w1 => ∃ (i : Nat) (F : Nat → Prop), j = .int .i64 i ∧ i ≤ len ∧ I F (secOff M k + i) w1 ∧ F bm ∧ F bs ∧ F b6 ∧ Cells w1 bm (mcells P M) ∧ Cells w1 bs (secCells M bm) ∧ Cells w1 b6 #[.int .i64 (len : Int), .func (.func f1) #[] c1, .func (.func f2) #[] c2]) (fun j _ => len - (RowKit.intOf j).toNat)
      case atStart =>
        obtain ⟨F, h1, h2, h3, h4⟩ := H6.out
        exact ⟨0, F, rfl, by omega, h1, h2, h3, h4, HCm.out, HCs.out, H7.out⟩
      case round =>
        clear H6 H7 HCm HCs
        obtain ⟨i, F, rfl, hi, hI, hFm, hFs, hF6, hCm, hCs, hC6⟩ := hrel
        have HI := Lib.hid hI
        have HFm := Lib.hid hFm
        have HFs := Lib.hid hFs
        have HF6 := Lib.hid hF6
        have HCm := Lib.hid hCm
        have HCs := Lib.hid hCs
        have HC6 := Lib.hid hC6
        clear hI hFm hFs hF6 hCm hCs hC6
        by_cases hil : i < len
        · have hil' : (i : Int) < (len : Int) := by omega
          obtain ⟨s, kd, hget, hc1, hc2⟩ := SEC.out.get i hil
          have HGet := Lib.hid hget
          have H1 := Lib.hid hc1
          have H2 := Lib.hid hc2
          clear hget hc1 hc2
          go_wp2_with fail
          have g0 : Gr wr wr.drew := (Gr.refl _).drew
          have d0 := HC6.out.c 0 rfl
          have d1 := HC6.out.c 1 rfl
          have d2 := HC6.out.c 2 rfl
          refine Stir.wp_region_fast [(0, true), (1, true), (2, true), (3, true), (5, true), (6, true), (7, true), (9, true), (10, true), (4, false), (8, false), (11, false)] (by kernel_rfl) (by kernel_rfl) rfl (by kernel_rfl) (fun _ _ d _ _ h => by cases d <;> exact h) ?_
          repeat (refine Stir.wpE_readB (v := ?_) g0 rfl rfl (fun w' hg => ?_) (fun K hK => ?_); rotate_left; (go_simp; rfl); go_simp; refine hK _ _ ?_; clear hK K)
          refine Stir.wpE_fnV (args := ?_) rfl rfl rfl rfl rfl SEC.out.e1 ?_ (fun K hK => ?_)
          rotate_left
          · go_simp; rfl
          refine (H1.out _ (HM.out.grow ((HV.out.base _ _ _ HI.out).trans g0)) (HCm.out.grow g0)).mono ?_
          rintro _ _ ⟨rfl, rfl⟩
          refine ⟨_, rfl, Gr.refl _, ?_⟩
          go_simp
          refine hK _ _ ?_
          clear hK K
          refine Stir.wpE_fnV (args := ?_) rfl rfl rfl rfl rfl SEC.out.e2 ?_ (fun K hK => ?_)
          rotate_left
          · go_simp; rfl
          refine (H2.out _ (HM.out.grow ((HV.out.base _ _ _ HI.out).trans g0)) (HCm.out.grow g0)).mono ?_
          rintro _ _ ⟨rfl, rfl⟩
          refine ⟨_, rfl, Gr.refl _, ?_⟩
          go_simp
          refine hK _ _ ?_
          clear hK K
          refine Stir.wpE_fnS (args := ?_) rfl rfl rfl rfl rfl rfl HV.out.enters ?_ (fun K hK => ?_)
          rotate_left
          · go_simp; rfl
          rw [show IntKind.i64.wrap ((i : Int) + 1) = (i : Int) + 1 by rw [IntKind.wrap_i64]; omega]
          refine (HV.out.step _ _ _ _ HGet.out (HV.out.grow _ _ _ _ HI.out g0)).mono ?_
          rintro _ w4 ⟨t, rfl, hsz, hkp, hR, hN⟩
          refine ⟨_, rfl, ?_⟩
          go_simp
          refine hK _ _ ?_
          clear hK K
          have hCm := Cells.kept (HCm.out.grow g0) (hkp bm (.inl HFm.out) (HCm.out.grow g0).lt)
          have hCs := Cells.kept (HCs.out.grow g0) (hkp bs (.inl HFs.out) (HCs.out.grow g0).lt)
          have hC6 := Cells.kept (HC6.out.grow g0) (hkp b6 (.inl HF6.out) (HC6.out.grow g0).lt)
          have HCm := Lib.hid hCm
          have HCs := Lib.hid hCs
          have HC6 := Lib.hid hC6
          have HR := Lib.hid hR
          have HN := Lib.hid hN
          clear hCm hCs hC6 hR hN hkp hsz g0 d0 d1 d2
          cases t
          · refine Stir.wpE_nil ?_
            go_wp2_with fail
            refine ⟨⟨i + 1, _, by go_num, by omega, HN.out (by first | rfl | trivial), .inl HFm.out, .inl HFs.out, .inl HF6.out, HCm.out, HCs.out, HC6.out⟩, by simp [RowKit.intOf]; omega⟩
          · refine Stir.wpE_nil ?_
            go_wp2_with fail
            try rw [Exit.noGoto_ret]
            refine bodyPost_ret (results_none rfl _ _ _) rfl ?_
            exact ⟨rfl, .inl (HR.out (by first | rfl | trivial))⟩
        · obtain rfl : i = len := by omega
          go_wp2_with fail
          refine ⟨⟨k + 1, F, by go_num, by omega, by rw [SEC.out.off]; exact HI.out, HFm.out, HFs.out, HCm.out, HCs.out⟩, by simp [RowKit.intOf]; omega⟩
    · obtain rfl : k = 5 := by omega
      go_wp2_with fail
      refine bodyPost_end (results_none rfl _ _ _) rfl ?_
      exact ⟨rfl, .inr ⟨F, by have := HI.out; rw [secOff_five] at this; exact this⟩⟩
end Go.Proofs.YtdekicijinmakaaGreatDoor

/-
 The law PlacementOrder.
-/
import Derived.Test.YtchpbaaabnkkkaaGreatDoorPmI
import Derived.Test.YtchpbaaabnkkkaaGreatDoorCatK
import Derived.Test.YtchpbaaabnkkkaaGreatDoorErlb
namespace Go.Proofs.YtchpbaaabnkkkaaGreatDoor
open Go.RowKit Go.Lib Lex
set_option linter.unusedVariables false
set_option linter.unusedSimpArgs false

theorem rise_ext : ∀ {l k : List UnitM}, Rise l → Rise k → (∀ m, findU l m = findU k m) → l = k
 | [], [], _, _, _ => rfl
 | [], y :: k, _, _, h => by
  have := h y.mach
  rw [findU_nil, findU_eq rfl] at this
  cases this
 | x :: l, [], _, _, h => by
  have := h x.mach
  rw [findU_nil, findU_eq rfl] at this
  cases this
 | x :: l, y :: k, h1, h2, h => by
  have hm : x.mach = y.mach := by
   rcases Int.lt_trichotomy x.mach y.mach with e | e | e
   ·have := h x.mach
    rw [findU_eq rfl, findU_none (fun z hz => by
     rcases List.mem_cons.1 hz with rfl | hz
     ·omega
     ·have := h2.tail.2 z hz; omega)] at this
    cases this
   ·exact e
   ·have := h y.mach
    rw [findU_eq (x := y) rfl, findU_none (fun z hz => by
     rcases List.mem_cons.1 hz with rfl | hz
     ·omega
     ·have := h1.tail.2 z hz; omega)] at this
    cases this
  have hx := h x.mach
  rw [findU_eq rfl, findU_eq hm.symm] at hx
  obtain rfl : x = y := Option.some.inj hx
  congr 1
  refine rise_ext h1.tail.1 h2.tail.1 fun m => ?_
  by_cases e : x.mach = m
  ·rw [findU_none (fun z hz => by have := h1.tail.2 z hz; omega), findU_none (fun z hz => by have := h2.tail.2 z hz; omega)]
  ·have := h m
   rwa [findU_ne e, findU_ne e] at this
theorem withP_with (X : Plc) (i : Int) (l k : List UnitM) : withP (withP X i l) i k = withP X i k := by
 by_cases hi : InP X i
 ·rw [withI ((inP_with X i i l).2 hi), withI hi, withI hi, List.set_set]
 ·rw [withO hi]
theorem withP_comm (X : Plc) {i j : Int} (l k : List UnitM) (h : i ≠ j) : withP (withP X i l) j k = withP (withP X j k) i l := by
 by_cases hi : InP X i
 ·by_cases hj : InP X j
  ·rw [withI ((inP_with X i j l).2 hj), withI ((inP_with X j i k).2 hi), withI hi, withI hj, List.set_comm _ _ (by have := hi.1; have := hj.1; omega)]
  ·rw [withO (fun h => hj ((inP_with X i j l).1 h)), withO hj]
 ·rw [withO hi, withO (fun h => hi ((inP_with X j i k).1 h))]
theorem updP_comm (X : Plc) {i j : Int} (f g : List UnitM → List UnitM) (h : i ≠ j) : updP (updP X i f) j g = updP (updP X j g) i f := by
 have e1 : unitsP (updP X i f) j = unitsP X j := by rw [unitsP_upd, if_neg (fun k => h k.1.symm)]
 have e2 : unitsP (updP X j g) i = unitsP X i := by rw [unitsP_upd, if_neg (fun k => h k.1)]
 show withP (updP X i f) j (g (unitsP (updP X i f) j)) = withP (updP X j g) i (f (unitsP (updP X j g) i))
 rw [e1, e2]
 exact withP_comm X _ _ h
theorem updP_upd (X : Plc) (i : Int) (f g : List UnitM → List UnitM) : updP (updP X i f) i g = updP X i (fun l => g (f l)) := by
 by_cases hi : InP X i
 ·show withP (updP X i f) i (g (unitsP (updP X i f) i)) = _
  rw [unitsP_upd, if_pos ⟨rfl, hi⟩]
  exact withP_with _ _ _ _
 ·unfold updP
  rw [withO (fun h => hi ((inP_with X i i _).1 h)), withO hi, withO hi]
theorem updP_congr {X : Plc} {i : Int} {f g : List UnitM → List UnitM} (h : InP X i → f (unitsP X i) = g (unitsP X i)) : updP X i f = updP X i g := by
 unfold updP
 by_cases hi : InP X i
 ·rw [h hi]
 ·rw [withO hi, withO hi]
theorem chgP_comm {X : Plc} (h : RiseP X) {i j m n : Int} (o q : Option Int) (hne : ¬ (i = j ∧ m = n)) : chgP (chgP X i m o) j n q = chgP (chgP X j n q) i m o := by
 by_cases e : i = j
 ·subst e
  have hmn : m ≠ n := fun e => hne ⟨rfl, e⟩
  unfold chgP
  rw [updP_upd, updP_upd]
  refine updP_congr fun _ => ?_
  have hr := h.units i
  refine rise_ext (chg_rise _ (chg_rise _ hr)) (chg_rise _ (chg_rise _ hr)) fun k => ?_
  rw [findU_chg _ (chg_rise _ hr), findU_chg _ hr, findU_chg _ (chg_rise _ hr), findU_chg _ hr]
  by_cases h1 : k = n
  ·rw [if_pos h1, if_neg (by omega), if_pos h1]
  ·rw [if_neg h1]
   by_cases h2 : k = m
   ·rw [if_pos h2, if_pos h2]
   ·rw [if_neg h2, if_neg h2, if_neg h1]
 ·exact updP_comm X _ _ e
def pairV (a b : Int) : Array Value := #[.int .i64 a, .int .i64 b]
theorem run_guard_pair (op : BinOp) (s u : Operand) (w : World) (xs ys : Array Value) : (eqGuard op 42 s u (.agg xs) (.agg ys)).run Tryz.prog w = .ok () w := by
 have q1 : Tryz.prog.eqGuardType Tryz.prog.depth 42 = false := by kernel_rfl
 cases op <;> simp [eqGuard, run_program, q1]
theorem size_int (w : World) : (sizeOf 3).run Tryz.prog w = .ok 1 w := by
 obtain ⟨i0, hi, hz0, hz1, hz2⟩ := info_parts int_info
 simp [sizeOf, typeInfo, hi, hz1]
theorem eqIn_pair (w : World) (d : Nat) (a b x y : Int) : (Op.equalIn (d + 2) 42 (.agg #[.int .i64 a, .int .i64 b]) (.agg #[.int .i64 x, .int .i64 y])).run Tryz.prog w = .ok (a == x && b == y) w := by
 have e0 := fun (a b : Int) w => part_un w #[.int .i64 a, .int .i64 b] 0 _ rfl
 have e1 := fun (a b : Int) w => part_un w #[.int .i64 a, .int .i64 b] 1 _ rfl
 have e := fun w a b => eqIn_intU w d a b
 rw [Op.equalIn]
 simp only [Sem.run_bind, run_underlying Tryz.underlying42, Result.andThen_ok, size_int]
 simp only [Std.Legacy.Range.forIn_eq_forIn_range', Std.Legacy.Range.size, Nat.sub_zero, Nat.add_sub_cancel, Nat.div_one, List.range'_succ, List.range'_zero, List.forIn_cons, List.forIn_nil, Sem.run_bind, Nat.mul_one, e0, e1, e, Result.andThen_ok]
 by_cases h1 : a = x
 ·by_cases h2 : b = y
  ·simp [h1, h2, e0, e1, e]
  ·simp [h1, h2, e0, e1, e]
 ·simp [h1, e0, e1, e]
theorem run_eql_pair (w : World) (a b x y : Int) : (binOp .eql 42 (.agg #[.int .i64 a, .int .i64 b]) (.agg #[.int .i64 x, .int .i64 y])).run Tryz.prog w = .ok (.bool (a == x && b == y)) w := by
 have := eqIn_pair w 9998 a b x y
 simp only [binOp, Op.equal, Op.maxDepth, Sem.run_bind, this, Result.andThen_ok, Sem.run_pure]
theorem chg_few {X : Plc} {n : Nat} (h : X.length ≤ n ∧ ∀ l ∈ X, l.length ≤ n) (i m : Int) (o : Option Int) : (chgP X i m o).length ≤ n + 1 ∧ ∀ l ∈ chgP X i m o, l.length ≤ n + 1 := by
 have hu : ∀ i, (unitsP X i).length ≤ n := fun i => by
  unfold unitsP
  split
  ·rw [List.getD_eq_getElem?_getD]
   cases hx : X[(i - 1).toNat]? with
   | none => simp
   | some l => exact h.2 l (List.mem_of_getElem? hx)
  ·simp
 refine ⟨by unfold chgP; rw [updP_len]; omega, fun l hl => ?_⟩
 rcases updP_mem hl with hl | ⟨_, rfl⟩
 ·have := h.2 l hl; omega
 ·have h1 := hu i
  cases o with
  | some s => have := putL_len (unitsP X i) ⟨m, s⟩; show (putL _ _).length ≤ _; omega
  | none => have := dropL_len (unitsP X i) m; show (dropL _ _).length ≤ _; omega
def zcP : TypeId → Array Value := fun _ => #[.slice none 0 0]
theorem allocP : AllocIs Tryz.prog 34 (zcP 34) := fun w => by
 simp [go_sem]
 rfl
theorem Fresh.oneP {T : TypeId} {b : Nat} {w : World} (h : Fresh (zcP T) T b w) : Cells w b #[.slice none 0 0] := ⟨T, h⟩
theorem SlL.keep {α : Type} {enc : α → List Value} {sz : Nat} {w w' : World} {p : Option Addr} {n c lo : Nat} {l : List α} (h : SlL w sz enc (.slice p n c) l) (hx : ∀ x, lo ≤ x → x < w.heap.size → w'.heap[x]? = w.heap[x]?) (ho : ∀ a, p = some a → lo ≤ a.block) : SlL w' sz enc (.slice p n c) l := by
 obtain ⟨h0, p', c', hv, h1, h2, h3⟩ := h
 cases hv
 refine ⟨h0, p, c, rfl, h1, h2, ?_⟩
 rcases h3 with h3 | ⟨b, o, hp, hc⟩
 ·exact .inl h3
 ·refine .inr ⟨b, o, hp, fun j u hj => ?_⟩
  have h4 := hc j u hj
  have hb : b < w.heap.size := by
   rcases Nat.lt_or_ge b w.heap.size with h | h
   ·exact h
   ·unfold World.cell? at h4
    rw [show (⟨b, o + j, none⟩ : Addr).block = b from rfl, Array.getElem?_eq_none h] at h4
    cases h4
  unfold World.cell? at h4 ⊢
  rw [show (⟨b, o + j, none⟩ : Addr).block = b from rfl] at h4 ⊢
  rw [hx b (ho _ hp) hb]
  exact h4
theorem PlcNew.keep {w w' : World} {n : Nat} {p : Option Addr} {c : Nat} {L : List RowU} (h : PlcNew w n p c L) (hx : ∀ x, n ≤ x → x < w.heap.size → w'.heap[x]? = w.heap[x]?) : PlcNew w' n p c L :=
 ⟨⟨SlL.keep h.at'.rows hx h.new, fun x hm => SlL.keep (h.at'.uns x hm) hx (h.news x hm), h.at'.big, h.at'.ubig⟩, h.new, h.news⟩
theorem keep_step {w w1 w2 : World} {lo hi b i : Nat} {u : Value} (h : ∀ x, lo ≤ x → x < hi → w1.heap[x]? = w.heap[x]?) (hs : hi ≤ w.heap.size) (g : Gr w1 w2) (hb : ¬ (lo ≤ b ∧ b < hi)) : ∀ x, lo ≤ x → x < hi → (w2.setCell ⟨b, i, none⟩ u).heap[x]? = w.heap[x]? := fun x h1 h2 => by
 have hne : x ≠ b := fun e => hb (e ▸ ⟨h1, h2⟩)
 have h3 := h x h1 h2
 have h4 : x < w1.heap.size := by
  rcases Nat.lt_or_ge x w1.heap.size with h' | h'
  ·exact h'
  ·rw [Array.getElem?_eq_none h', Array.getElem?_eq_getElem (by omega : x < w.heap.size)] at h3; cases h3
 rw [upd_set w2 b i u x hne, Below.block g x h4, h3]
def FewN (n : Nat) (X : Plc) : Prop := X.length ≤ n ∧ ∀ l ∈ X, l.length ≤ n
theorem FewN.k {n : Nat} {X : Plc} (h : FewN n X) (hn : n ≤ 900) : FewK X ∧ ∀ l ∈ X, l.length ≤ 900 := ⟨⟨by have := h.1; omega, fun l hl => by have := h.2 l hl; omega⟩, fun l hl => by have := h.2 l hl; omega⟩
set_option maxRecDepth 100000 in
set_option maxHeartbeats 12800000 in
theorem law_PlacementOrder (w : World) (ht : Tab w) (P : Ptrs) (M : Mdl) (hm : MdlAt w P M) (hr : MdlR M) (p : Option Addr) (c : Nat) (L : List RowU) (hp : PlcAt w p c L) (a0i a1i : Int) (_ : True) (b0i b1i : Int) (_ : True) (st : Int) (dr : Bool) :
  Calls Tryz.prog 5 #[.agg (mcells P M), plcV p c L, .agg (pairV a0i a1i), .agg (pairV b0i b1i), .int .i64 st, .bool dr] w (Ret w fun r _ => r = .bool true) := by
 have HT := Lib.hid ht
 have HM0 := Lib.hid hm
 have HP0 := Lib.hid hp
 have B0 := Cells.new w (mcells P M) 29
 have B1 := Cells.new (w.alloc (.cells (mcells P M) 29)) #[.slice p L.length c] 34
 have B2 := Cells.new ((w.alloc (.cells (mcells P M) 29)).alloc (.cells #[.slice p L.length c] 34)) (pairV a0i a1i) 42
 have B3 := Cells.new (((w.alloc (.cells (mcells P M) 29)).alloc (.cells #[.slice p L.length c] 34)).alloc (.cells (pairV a0i a1i) 42)) (pairV b0i b1i) 42
 simp only [World.size_alloc] at B1 B2 B3
 have H := Lib.hid (show _ ∧ _ ∧ _ ∧ _ ∧ _ from ⟨B0.1.trans (B1.1.trans (B2.1.trans B3.1)), B0.2.grow (B1.1.trans (B2.1.trans B3.1)), B1.2.grow (B2.1.trans B3.1), B2.2.grow B3.1, B3.2⟩)
 clear B0 B1 B2 B3 hm hp ht
 unfold mcells pairV at H
 unfold mcells pairV plcV
 go_enter Tryz.func5, Tryz.ntmps5
 go_wp2_with fail
 generalize w.heap.size + 1 + 1 + 1 = bb at H ⊢
 generalize w.heap.size + 1 + 1 = ba at H ⊢
 generalize w.heap.size + 1 = bp at H ⊢
 generalize w.heap.size = bm at H ⊢
 generalize (((w.alloc _).alloc _).alloc _).alloc _ = W at H ⊢
 have G := Lib.hid (show Gr w W from H.out.1)
 have TM := Lib.hid (show Cells W bm (mcells P M) from H.out.2.1)
 have TP := Lib.hid (show Cells W bp #[.slice p L.length c] from H.out.2.2.1)
 have TA := Lib.hid (show Cells W ba #[.int .i64 a0i, .int .i64 a1i] from H.out.2.2.2.1)
 have TB := Lib.hid (show Cells W bb #[.int .i64 b0i, .int .i64 b1i] from H.out.2.2.2.2)
 have HM := Lib.hid (HM0.out.grow G.out)
 have HP := Lib.hid (HP0.out.grow G.out)
 have HT := Lib.hid (HT.out.grow G.out)
 clear H
 refine (law20_awake W HT.out).mono ?_
 rintro _ w1 ⟨_, rfl, g1, rfl⟩
 have G := Lib.hid (G.out.trans g1)
 have TM := Lib.hid (TM.out.grow g1)
 have TP := Lib.hid (TP.out.grow g1)
 have TA := Lib.hid (TA.out.grow g1)
 have TB := Lib.hid (TB.out.grow g1)
 have HM := Lib.hid (HM.out.grow g1)
 have HP := Lib.hid (HP.out.grow g1)
 have HT := Lib.hid (HT.out.grow g1)
 clear g1
 have m0 := mc0 TM.out _ (Gr.refl _)
 have m1 := mc1 TM.out _ (Gr.refl _)
 have m2 := mc2 TM.out _ (Gr.refl _)
 have m3 := mc3 TM.out _ (Gr.refl _)
 have m4 := mc4 TM.out _ (Gr.refl _)
 have m5 := mc5 TM.out _ (Gr.refl _)
 have m6 := mc6 TM.out _ (Gr.refl _)
 have m7 := mc7 TM.out _ (Gr.refl _)
 have m8 := mc8 TM.out _ (Gr.refl _)
 have m9 := mc9 TM.out _ (Gr.refl _)
 have m10 := mc10 TM.out _ (Gr.refl _)
 have s0 := TP.out.at 0 rfl
 go_wp2_with fail
 clear m0 m1 m2 m3 m4 m5 m6 m7 m8 m9 m10
 clear s0
 refine (law20_large w1 P M p c L HM.out HP.out).mono ?_
 rintro _ w2 ⟨r2, rfl, g1, h⟩
 have G := Lib.hid (G.out.trans g1)
 have TM := Lib.hid (TM.out.grow g1)
 have TP := Lib.hid (TP.out.grow g1)
 have TA := Lib.hid (TA.out.grow g1)
 have TB := Lib.hid (TB.out.grow g1)
 have HM := Lib.hid (HM.out.grow g1)
 have HP := Lib.hid (HP.out.grow g1)
 have HT := Lib.hid (HT.out.grow g1)
 clear g1
 rcases h.cases with ⟨rfl, k1⟩ | ⟨rfl, k1⟩
 ·clear h k1
  go_wp2_with fail
  try rw [Exit.noGoto_ret]
  go_ret
  exact ⟨_, rfl, G.out, rfl⟩
 have HFF := Lib.hid (Classical.not_not.1 k1)
 clear h k1
 have HF := Lib.hid HFF.out.1
 have FK := Lib.hid HFF.out.2.k
 have F9 := Lib.hid (show ∀ l ∈ usOf L, l.length ≤ 900 from fun l hl => by have := HFF.out.2.2 l hl; omega)
 have HN := Lib.hid (show FewN 24 (usOf L) from HFF.out.2)
 have m0 := mc0 TM.out _ (Gr.refl _)
 have m1 := mc1 TM.out _ (Gr.refl _)
 have m2 := mc2 TM.out _ (Gr.refl _)
 have m3 := mc3 TM.out _ (Gr.refl _)
 have m4 := mc4 TM.out _ (Gr.refl _)
 have m5 := mc5 TM.out _ (Gr.refl _)
 have m6 := mc6 TM.out _ (Gr.refl _)
 have m7 := mc7 TM.out _ (Gr.refl _)
 have m8 := mc8 TM.out _ (Gr.refl _)
 have m9 := mc9 TM.out _ (Gr.refl _)
 have m10 := mc10 TM.out _ (Gr.refl _)
 have s0 := TP.out.at 0 rfl
 go_wp2_with fail
 clear m0 m1 m2 m3 m4 m5 m6 m7 m8 m9 m10
 clear s0
 refine (ref_Valid20 w2 P M p c L HM.out HF.out HP.out FK.out).mono ?_
 rintro _ w3 ⟨r3, rfl, g1, h⟩
 have G := Lib.hid (G.out.trans g1)
 have TM := Lib.hid (TM.out.grow g1)
 have TP := Lib.hid (TP.out.grow g1)
 have TA := Lib.hid (TA.out.grow g1)
 have TB := Lib.hid (TB.out.grow g1)
 have HM := Lib.hid (HM.out.grow g1)
 have HP := Lib.hid (HP.out.grow g1)
 have HT := Lib.hid (HT.out.grow g1)
 clear g1
 rcases h.cases with ⟨rfl, k1⟩ | ⟨rfl, k1⟩
 rotate_left
 ·clear h k1
  go_wp2_with fail
  try rw [Exit.noGoto_ret]
  go_ret
  exact ⟨_, rfl, G.out, rfl⟩
 have HV := Lib.hid k1
 have HRI := Lib.hid (show RiseP (usOf L) from k1.rise)
 clear h k1
 have a0 := TA.out.at 0 rfl
 have a1 := TA.out.at 1 rfl
 have b0 := TB.out.at 0 rfl
 have b1 := TB.out.at 1 rfl
 have e1 := fun w => run_eql_pair w a0i a1i b0i b1i
 have e2 := run_guard_pair
 obtain ⟨t, ht⟩ : ∃ t, (a0i == b0i && a1i == b1i) = t := ⟨_, rfl⟩
 simp only [ht] at e1
 have HTT := Lib.hid ht
 clear ht
 cases t
 rotate_left
 ·go_wp2_with fail
  try rw [Exit.noGoto_ret]
  go_ret
  exact ⟨_, rfl, G.out, rfl⟩
 go_wp2_with fail
 clear a0 a1 b0 b1 e1 e2
 have HAB := Lib.hid (show ¬ (a0i = b0i ∧ a1i = b1i) from fun h => by have := HTT.out; simp [h.1, h.2] at this)
 have g0 : Gr w3 w3.drew := (Gr.refl _).drew
 have s0 := TP.out.c 0 rfl
 have a0 := TA.out.c 0 rfl
 have a1 := TA.out.c 1 rfl
 refine LateL.wp_region_latel (fun w' => Gr w3 w') g0 (fun _ _ h g => h.trans g) zcP 60 [(0, 1), (1, 1), (2, 1), (3, 1), (4, 1), (5, 1), (7, 1), (6, 0), (8, 2), (9, 2), (10, 0), (11, 0)] (by kernel_rfl) (by kernel_rfl) rfl (by kernel_rfl) (fun _ _ d _ _ h => by cases d <;> exact h) (fun _ _ d _ _ h => by cases d <;> exact h) (by intro i hi; simp at hi; rcases hi with rfl | rfl <;> exact ⟨_, _, rfl, rfl, rfl, allocP⟩) ?_
 repeat (refine LateL.wpJ_read (v := ?_) rfl rfl (fun w' hg => ?_) (fun K hK => ?_); rotate_left; (go_simp; rfl); go_simp; refine hK _ _ ?_; clear hK K)
 clear s0 a0 a1
 refine LateL.wpJ_do rfl rfl (fun K hK w4 g4 => ?_)
 go_simp
 refine (plc_Put w4 p c L a0i a1i st (HP.out.grow (g0.trans g4)) FK.out F9.out).mono ?_
 rintro _ w5 ⟨_, rfl, g5, px, cx, Lx, rfl, hx, hux⟩
 have HX := Lib.hid (show PlcNew w5 w4.heap.size px cx Lx from hx)
 have UX := Lib.hid (show usOf Lx = putP (usOf L) a0i a1i st from hux)
 clear hx hux
 unfold plcV
 have g9 := (g0.trans g4).trans g5
 refine ⟨fun _ => g5, g9, hK _ _ _ ?_⟩
 clear hK K
 clear g0 g4 g5
 refine LateL.wpJ_new rfl rfl (fun K w6 bx g6 f2 n2 hK => hK _ _ ?_)
 clear hK K
 refine LateL.wpJ_new rfl rfl (fun K w7 by_ g7 f3 n3 hK => hK _ _ ?_)
 clear hK K
 have T2 := Lib.hid f2.oneP
 have T3 := Lib.hid f3.oneP
 have N2 := Lib.hid (show ¬ (bx < w3.heap.size ∨ (w4.heap.size ≤ bx ∧ bx < w5.heap.size)) from n2)
 have N3 := Lib.hid (show ¬ ((by_ < w3.heap.size ∨ (w4.heap.size ≤ by_ ∧ by_ < w5.heap.size)) ∨ by_ = bx) from n3)
 clear f2 f3 n2 n3
 refine LateL.wpJ_do rfl rfl (fun K hK w8 g8 => ?_)
 have e2 := T2.out.grow (g7.trans g8)
 have d0 := e2.at 0 rfl
 have d2 := Cells.f e2 0
 go_simp
 have GG := Lib.hid ((g9.trans (g6.trans (g7.trans g8))).set (fun h => N2.out (.inl h)) (i := 0) (.slice px Lx.length cx))
 refine ⟨fun h => Bool.noConfusion h, GG.out, hK _ _ _ ?_⟩
 clear hK K
 have TX := Lib.hid (show Cells (w8.setCell ⟨bx, 0, none⟩ (.slice px Lx.length cx)) bx #[.slice px Lx.length cx] from by simpa using e2.set 0 (.slice px Lx.length cx))
 have T3 := Lib.hid ((T3.out.grow g8).upd (upd_set w8 bx 0 (.slice px Lx.length cx)) (fun e => N3.out (.inr e)))
 have KK := Lib.hid (keep_step (w := w5) (lo := w4.heap.size) (hi := w5.heap.size) (u := .slice px Lx.length cx) (i := 0) (fun _ _ _ => rfl) (Nat.le_refl _) (g6.trans (g7.trans g8)) (fun h => N2.out (.inr h)))
 clear d0 d2 e2 T2 g6 g7 g8 g9
 generalize w8.setCell _ _ = w9 at GG TX T3 KK ⊢
 refine LateL.wpJ_do rfl rfl (fun K hK w10 g10 => ?_)
 have e3 := T3.out.grow g10
 have d0 := e3.at 0 rfl
 have d2 := Cells.f e3 0
 go_simp
 have GG := Lib.hid ((GG.out.trans g10).set (fun h => N3.out (.inl (.inl h))) (i := 0) (.slice p L.length c))
 refine ⟨fun h => Bool.noConfusion h, GG.out, hK _ _ _ ?_⟩
 clear hK K
 have TY := Lib.hid (show Cells (w10.setCell ⟨by_, 0, none⟩ (.slice p L.length c)) by_ #[.slice p L.length c] from by simpa using e3.set 0 (.slice p L.length c))
 have TX := Lib.hid ((TX.out.grow g10).upd (upd_set w10 by_ 0 (.slice p L.length c)) (fun e => N3.out (.inr e.symm)))
 have KK := Lib.hid (keep_step (u := .slice p L.length c) (i := 0) KK.out (Nat.le_refl _) g10 (fun h => N3.out (.inl (.inr h))))
 clear d0 d2 e3 T3 g10
 generalize w10.setCell _ _ = W5 at GG TX TY KK ⊢
 refine LateL.wpJ_nil ?_
 have HA3 := TA
 have HX := Lib.hid (HX.out.keep KK.out).at'
 have GW := Lib.hid G.out
 have TA := Lib.hid (TA.out.grow GG.out)
 have TB := Lib.hid (TB.out.grow GG.out)
 have HP := Lib.hid (HP.out.grow GG.out)
 have HBX := Lib.hid (show ¬ bx < w3.heap.size from fun h => N2.out (.inl h))
 have HBY := Lib.hid (show ¬ by_ < w3.heap.size from fun h => N3.out (.inl (.inl h)))
 have HXY := Lib.hid (show bx ≠ by_ from fun e => N3.out (.inr e.symm))
 have HLA := Lib.hid (show ba < w3.heap.size from HA3.out.lt)
 have HXA := Lib.hid (show ba ≠ bx from fun e => HBX.out (e ▸ HLA.out))
 have HYA := Lib.hid (show ba ≠ by_ from fun e => HBY.out (e ▸ HLA.out))
 have HLX := Lib.hid TX.out.lt
 have HLY := Lib.hid TY.out.lt
 have HFX := Lib.hid (FewN.k (show FewN 25 (usOf Lx) from by rw [UX.out, putP_chg]; exact chg_few HN.out _ _ _) (by decide))
 clear N2 N3 KK HTT G TM HM HT TP HLA HA3
 cases dr
 ·go_wp2_with fail
  have g0 : Gr W5 W5.drew := (Gr.refl _).drew
  have x0 := TX.out.c 0 rfl
  have y0 := TY.out.c 0 rfl
  have b0 := TB.out.c 0 rfl
  have b1 := TB.out.c 1 rfl
  refine wp_region_fast [(0, true), (1, true), (2, true), (3, true), (4, true), (6, true), (7, true), (8, true), (9, true), (10, true), (5, false), (11, false), (12, false), (13, false)] (by kernel_rfl) (by kernel_rfl) rfl (by kernel_rfl) (fun _ _ d _ _ h => by cases d <;> exact h) ?_
  repeat (refine wpE_readB (v := ?_) g0 rfl rfl (fun w' hg => ?_) (fun K hK => ?_); rotate_left; (go_simp; rfl); go_simp; refine hK _ _ ?_; clear hK K)
  clear x0 y0 b0 b1
  refine wpE_fn (args := ?_) rfl rfl rfl rfl rfl rfl (by kernel_rfl) (by kernel_rfl) ?_ (fun K hK => ?_)
  rotate_left
  ·go_simp; rfl
  refine (plc_Put _ px cx Lx b0i b1i 1 (HX.out.grow g0) HFX.out.1 HFX.out.2).mono ?_
  rintro _ w6 ⟨_, rfl, g6, p6, c6, L6, rfl, h6, hu6⟩
  have H6 := Lib.hid (h6.mono (m := W5.heap.size) g0.size)
  have U6 := Lib.hid (show usOf L6 = chgP (usOf Lx) b0i b1i (some 1) from hu6)
  clear h6 hu6
  unfold plcV
  refine ⟨_, rfl, g6, ?_⟩
  go_simp
  refine hK _ _ ?_
  clear hK K
  replace g0 := g0.trans g6
  refine wpE_fn (args := ?_) rfl rfl rfl rfl rfl rfl (by kernel_rfl) (by kernel_rfl) ?_ (fun K hK => ?_)
  rotate_left
  ·go_simp; rfl
  refine (plc_Put _ p c L b0i b1i 1 (HP.out.grow g0) FK.out F9.out).mono ?_
  rintro _ w7 ⟨_, rfl, g7, p7, c7, L7, rfl, h7, hu7⟩
  have H7 := Lib.hid (h7.mono (m := W5.heap.size) g0.size)
  have U7 := Lib.hid (show usOf L7 = chgP (usOf L) b0i b1i (some 1) from hu7)
  have H6 := Lib.hid (H6.out.grow g7)
  clear h7 hu7
  unfold plcV
  refine ⟨_, rfl, g7, ?_⟩
  go_simp
  refine hK _ _ ?_
  clear hK K
  replace g0 := g0.trans g7
  have TX := Lib.hid (TX.out.grow g0)
  have TY := Lib.hid (TY.out.grow g0)
  have TA := Lib.hid (TA.out.grow g0)
  have GG := Lib.hid (GG.out.trans g0)
  have x0 := TX.out.at 0 rfl
  have x1 := Cells.f TX.out 0
  clear g0 g6 g7
  refine wpE_do rfl rfl (fun K hK => ?_)
  go_simp
  refine ⟨fun h => Bool.noConfusion h, hK _ _ ?_⟩
  clear hK K
  clear x0 x1
  have H6 := Lib.hid (H6.out.other (b := bx) (i := 0) (u := .slice p6 L6.length c6) HLX.out)
  have H7 := Lib.hid (H7.out.other (b := bx) (i := 0) (u := .slice p6 L6.length c6) HLX.out)
  have TX' := TX.out.set 0 (.slice p6 L6.length c6)
  have TY := Lib.hid (TY.out.upd (upd_set w7 bx 0 (.slice p6 L6.length c6)) HXY.out.symm)
  have TA := Lib.hid (TA.out.upd (upd_set w7 bx 0 (.slice p6 L6.length c6)) HXA.out)
  have GG := Lib.hid (GG.out.set HBX.out (i := 0) (.slice p6 L6.length c6))
  have TX := Lib.hid (show Cells (w7.setCell ⟨bx, 0, none⟩ (.slice p6 L6.length c6)) bx #[.slice p6 L6.length c6] from by simpa using TX')
  clear TX'
  generalize w7.setCell _ _ = w8 at H6 H7 TX TY TA GG ⊢
  have y0 := TY.out.at 0 rfl
  have y1 := Cells.f TY.out 0
  refine wpE_do rfl rfl (fun K hK => ?_)
  go_simp
  refine ⟨fun h => Bool.noConfusion h, hK _ _ ?_⟩
  clear hK K
  clear y0 y1
  have H6 := Lib.hid (H6.out.other (b := by_) (i := 0) (u := .slice p7 L7.length c7) HLY.out)
  have H7 := Lib.hid (H7.out.other (b := by_) (i := 0) (u := .slice p7 L7.length c7) HLY.out)
  have TY' := TY.out.set 0 (.slice p7 L7.length c7)
  have TX := Lib.hid (TX.out.upd (upd_set w8 by_ 0 (.slice p7 L7.length c7)) HXY.out)
  have TA := Lib.hid (TA.out.upd (upd_set w8 by_ 0 (.slice p7 L7.length c7)) HYA.out)
  have GG := Lib.hid (GG.out.set HBY.out (i := 0) (.slice p7 L7.length c7))
  have TY := Lib.hid (show Cells (w8.setCell ⟨by_, 0, none⟩ (.slice p7 L7.length c7)) by_ #[.slice p7 L7.length c7] from by simpa using TY')
  clear TY'
  generalize w8.setCell _ _ = w9 at H6 H7 TX TY TA GG ⊢
  refine wpE_nil ?_
  go_wp2_with fail
  have g0 : Gr w9 w9.drew := (Gr.refl _).drew
  have x0 := TX.out.c 0 rfl
  have y0 := TY.out.c 0 rfl
  have a0 := TA.out.c 0 rfl
  have a1 := TA.out.c 1 rfl
  refine wp_region_fast [(0, true), (1, true), (2, true), (3, true), (4, true), (5, true), (6, true), (7, false), (8, false), (9, true)] (by kernel_rfl) (by kernel_rfl) rfl (by kernel_rfl) (fun _ _ d _ _ h => by cases d <;> exact h) ?_
  repeat (refine wpE_readB (v := ?_) g0 rfl rfl (fun w' hg => ?_) (fun K hK => ?_); rotate_left; (go_simp; rfl); go_simp; refine hK _ _ ?_; clear hK K)
  clear x0 y0 a0 a1
  have HN7 := Lib.hid (show FewN 25 (usOf L7) from by rw [U7.out]; exact chg_few HN.out _ _ _)
  refine wpE_fn (args := ?_) rfl rfl rfl rfl rfl rfl (by kernel_rfl) (by kernel_rfl) ?_ (fun K hK => ?_)
  rotate_left
  ·go_simp; rfl
  refine (plc_Put _ p7 c7 L7 a0i a1i st (H7.out.at'.grow g0) (HN7.out.k (by decide)).1 (HN7.out.k (by decide)).2).mono ?_
  rintro _ w10 ⟨_, rfl, g10, p10, c10, L10, rfl, h10, hu10⟩
  have H10 := Lib.hid h10.at'
  have U10 := Lib.hid hu10
  clear h10 hu10
  unfold plcV
  refine ⟨_, rfl, g10, ?_⟩
  go_simp
  refine hK _ _ ?_
  clear hK K
  replace g0 := g0.trans g10
  refine wpE_fn (args := ?_) rfl rfl rfl rfl rfl rfl (by kernel_rfl) (by kernel_rfl) ?_ (fun K hK => ?_)
  rotate_left
  ·go_simp; rfl
  refine (ref_Same20 w10 p6 p10 c6 c10 L6 L10 (H6.out.at'.grow g0) H10.out).mono ?_
  rintro _ w11 ⟨r11, rfl, g11, h11⟩
  rcases h11.cases with ⟨rfl, _⟩ | ⟨_, k1⟩
  rotate_left
  ·exact absurd (by rw [U10.out, U6.out, U7.out, UX.out, putP_chg]; exact chgP_comm HRI.out (some st) (some 1) HAB.out) k1
  clear h11
  refine ⟨_, rfl, g11, ?_⟩
  go_simp
  refine hK _ _ ?_
  clear hK K
  replace g0 := g0.trans g11
  repeat (refine wpE_readB (v := ?_) g0 rfl rfl (fun w' hg => ?_) (fun K hK => ?_); rotate_left; (go_simp; rfl); go_simp; refine hK _ _ ?_; clear hK K)
  refine wpE_nil ?_
  have G := Lib.hid (GG.out.trans g0)
  clear g0
  go_wp2_with fail
  go_ret
  exact ⟨_, rfl, GW.out.trans G.out, rfl⟩
 ·go_wp2_with fail
  have g0 : Gr W5 W5.drew := (Gr.refl _).drew
  have x0 := TX.out.c 0 rfl
  have y0 := TY.out.c 0 rfl
  have b0 := TB.out.c 0 rfl
  have b1 := TB.out.c 1 rfl
  refine wp_region_fast [(0, true), (1, true), (2, true), (3, true), (4, true), (6, true), (7, true), (8, true), (9, true), (10, true), (5, false), (11, false), (12, false), (13, false)] (by kernel_rfl) (by kernel_rfl) rfl (by kernel_rfl) (fun _ _ d _ _ h => by cases d <;> exact h) ?_
  repeat (refine wpE_readB (v := ?_) g0 rfl rfl (fun w' hg => ?_) (fun K hK => ?_); rotate_left; (go_simp; rfl); go_simp; refine hK _ _ ?_; clear hK K)
  clear x0 y0 b0 b1
  refine wpE_fn (args := ?_) rfl rfl rfl rfl rfl rfl (by kernel_rfl) (by kernel_rfl) ?_ (fun K hK => ?_)
  rotate_left
  ·go_simp; rfl
  refine (plc_Drop _ px cx Lx b0i b1i (HX.out.grow g0) HFX.out.1).mono ?_
  rintro _ w6 ⟨_, rfl, g6, p6, c6, L6, rfl, h6, hu6⟩
  have H6 := Lib.hid (h6.mono (m := W5.heap.size) g0.size)
  have U6 := Lib.hid (show usOf L6 = chgP (usOf Lx) b0i b1i none from hu6)
  clear h6 hu6
  unfold plcV
  refine ⟨_, rfl, g6, ?_⟩
  go_simp
  refine hK _ _ ?_
  clear hK K
  replace g0 := g0.trans g6
  refine wpE_fn (args := ?_) rfl rfl rfl rfl rfl rfl (by kernel_rfl) (by kernel_rfl) ?_ (fun K hK => ?_)
  rotate_left
  ·go_simp; rfl
  refine (plc_Drop _ p c L b0i b1i (HP.out.grow g0) FK.out).mono ?_
  rintro _ w7 ⟨_, rfl, g7, p7, c7, L7, rfl, h7, hu7⟩
  have H7 := Lib.hid (h7.mono (m := W5.heap.size) g0.size)
  have U7 := Lib.hid (show usOf L7 = chgP (usOf L) b0i b1i none from hu7)
  have H6 := Lib.hid (H6.out.grow g7)
  clear h7 hu7
  unfold plcV
  refine ⟨_, rfl, g7, ?_⟩
  go_simp
  refine hK _ _ ?_
  clear hK K
  replace g0 := g0.trans g7
  have TX := Lib.hid (TX.out.grow g0)
  have TY := Lib.hid (TY.out.grow g0)
  have TA := Lib.hid (TA.out.grow g0)
  have GG := Lib.hid (GG.out.trans g0)
  have x0 := TX.out.at 0 rfl
  have x1 := Cells.f TX.out 0
  clear g0 g6 g7
  refine wpE_do rfl rfl (fun K hK => ?_)
  go_simp
  refine ⟨fun h => Bool.noConfusion h, hK _ _ ?_⟩
  clear hK K
  clear x0 x1
  have H6 := Lib.hid (H6.out.other (b := bx) (i := 0) (u := .slice p6 L6.length c6) HLX.out)
  have H7 := Lib.hid (H7.out.other (b := bx) (i := 0) (u := .slice p6 L6.length c6) HLX.out)
  have TX' := TX.out.set 0 (.slice p6 L6.length c6)
  have TY := Lib.hid (TY.out.upd (upd_set w7 bx 0 (.slice p6 L6.length c6)) HXY.out.symm)
  have TA := Lib.hid (TA.out.upd (upd_set w7 bx 0 (.slice p6 L6.length c6)) HXA.out)
  have GG := Lib.hid (GG.out.set HBX.out (i := 0) (.slice p6 L6.length c6))
  have TX := Lib.hid (show Cells (w7.setCell ⟨bx, 0, none⟩ (.slice p6 L6.length c6)) bx #[.slice p6 L6.length c6] from by simpa using TX')
  clear TX'
  generalize w7.setCell _ _ = w8 at H6 H7 TX TY TA GG ⊢
  have y0 := TY.out.at 0 rfl
  have y1 := Cells.f TY.out 0
  refine wpE_do rfl rfl (fun K hK => ?_)
  go_simp
  refine ⟨fun h => Bool.noConfusion h, hK _ _ ?_⟩
  clear hK K
  clear y0 y1
  have H6 := Lib.hid (H6.out.other (b := by_) (i := 0) (u := .slice p7 L7.length c7) HLY.out)
  have H7 := Lib.hid (H7.out.other (b := by_) (i := 0) (u := .slice p7 L7.length c7) HLY.out)
  have TY' := TY.out.set 0 (.slice p7 L7.length c7)
  have TX := Lib.hid (TX.out.upd (upd_set w8 by_ 0 (.slice p7 L7.length c7)) HXY.out)
  have TA := Lib.hid (TA.out.upd (upd_set w8 by_ 0 (.slice p7 L7.length c7)) HYA.out)
  have GG := Lib.hid (GG.out.set HBY.out (i := 0) (.slice p7 L7.length c7))
  have TY := Lib.hid (show Cells (w8.setCell ⟨by_, 0, none⟩ (.slice p7 L7.length c7)) by_ #[.slice p7 L7.length c7] from by simpa using TY')
  clear TY'
  generalize w8.setCell _ _ = w9 at H6 H7 TX TY TA GG ⊢
  refine wpE_nil ?_
  go_wp2_with fail
  have g0 : Gr w9 w9.drew := (Gr.refl _).drew
  have x0 := TX.out.c 0 rfl
  have y0 := TY.out.c 0 rfl
  have a0 := TA.out.c 0 rfl
  have a1 := TA.out.c 1 rfl
  refine wp_region_fast [(0, true), (1, true), (2, true), (3, true), (4, true), (5, true), (6, true), (7, false), (8, false), (9, true)] (by kernel_rfl) (by kernel_rfl) rfl (by kernel_rfl) (fun _ _ d _ _ h => by cases d <;> exact h) ?_
  repeat (refine wpE_readB (v := ?_) g0 rfl rfl (fun w' hg => ?_) (fun K hK => ?_); rotate_left; (go_simp; rfl); go_simp; refine hK _ _ ?_; clear hK K)
  clear x0 y0 a0 a1
  have HN7 := Lib.hid (show FewN 25 (usOf L7) from by rw [U7.out]; exact chg_few HN.out _ _ _)
  refine wpE_fn (args := ?_) rfl rfl rfl rfl rfl rfl (by kernel_rfl) (by kernel_rfl) ?_ (fun K hK => ?_)
  rotate_left
  ·go_simp; rfl
  refine (plc_Put _ p7 c7 L7 a0i a1i st (H7.out.at'.grow g0) (HN7.out.k (by decide)).1 (HN7.out.k (by decide)).2).mono ?_
  rintro _ w10 ⟨_, rfl, g10, p10, c10, L10, rfl, h10, hu10⟩
  have H10 := Lib.hid h10.at'
  have U10 := Lib.hid hu10
  clear h10 hu10
  unfold plcV
  refine ⟨_, rfl, g10, ?_⟩
  go_simp
  refine hK _ _ ?_
  clear hK K
  replace g0 := g0.trans g10
  refine wpE_fn (args := ?_) rfl rfl rfl rfl rfl rfl (by kernel_rfl) (by kernel_rfl) ?_ (fun K hK => ?_)
  rotate_left
  ·go_simp; rfl
  refine (ref_Same20 w10 p6 p10 c6 c10 L6 L10 (H6.out.at'.grow g0) H10.out).mono ?_
  rintro _ w11 ⟨r11, rfl, g11, h11⟩
  rcases h11.cases with ⟨rfl, _⟩ | ⟨_, k1⟩
  rotate_left
  ·exact absurd (by rw [U10.out, U6.out, U7.out, UX.out, putP_chg]; exact chgP_comm HRI.out (some st) none HAB.out) k1
  clear h11
  refine ⟨_, rfl, g11, ?_⟩
  go_simp
  refine hK _ _ ?_
  clear hK K
  replace g0 := g0.trans g11
  repeat (refine wpE_readB (v := ?_) g0 rfl rfl (fun w' hg => ?_) (fun K hK => ?_); rotate_left; (go_simp; rfl); go_simp; refine hK _ _ ?_; clear hK K)
  refine wpE_nil ?_
  have G := Lib.hid (GG.out.trans g0)
  clear g0
  go_wp2_with fail
  go_ret
  exact ⟨_, rfl, GW.out.trans G.out, rfl⟩
end Go.Proofs.YtchpbaaabnkkkaaGreatDoor

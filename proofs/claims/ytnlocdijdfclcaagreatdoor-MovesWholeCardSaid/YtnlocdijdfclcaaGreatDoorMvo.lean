/-
  Rows of moves.
  exodusref23.Same; cmp.Compare, cmp.Or; moves.Compare, exodusref23.Compare.
-/
import Derived.Test.YtnlocdijdfclcaaGreatDoorMva
import Derived.Test.YtnlocdijdfclcaaGreatDoorPlp
import Derived.Test.YtnlocdijdfclcaaGreatDoorTree
namespace Go.Proofs.YtnlocdijdfclcaaGreatDoor
open Go.RowKit Go.Lib Lex
set_option linter.unusedVariables false
set_option linter.unusedSimpArgs false

def encMv (x : MvM) : List Value := [.int .i64 x.item, .int .i64 x.frm, .int .i64 x.to]
theorem encMv_len (x : MvM) : (encMv x).length = 3 := rfl
theorem encMv_one : ∀ x, ∀ u ∈ encMv x, u.oneCell' = true := fun x u hu => by
 unfold encMv at hu
 simp only [List.mem_cons, List.not_mem_nil, or_false] at hu
 rcases hu with rfl | rfl | rfl <;> rfl
abbrev OwnM (w : World) (base : Nat) (v : Value) (l : List MvM) : Prop := OwnL w base 34 3 encMv v l
abbrev MvL (w : World) (v : Value) (l : List MvM) : Prop := SlL w 3 encMv v l
theorem mv_info : (Tryz.prog.info? 34).map (fun i => (i.zero, i.size, i.bytes)) = some (some (.agg #[.int .i64 0, .int .i64 0, .int .i64 0]), 3, 24) := by kernel_rfl
end Go.Proofs.YtnlocdijdfclcaaGreatDoor
namespace Go.Proofs.YtnlocdijdfclcaaGreatDoor
open Go.RowKit Go.Lib Lex
set_option linter.unusedVariables false
set_option linter.unusedSimpArgs false

def MvCell (w : World) (b o : Nat) (x : MvM) : Prop := w.cell? ⟨b, o, none⟩ = some (.int .i64 x.item) ∧ w.cell? ⟨b, o + 1, none⟩ = some (.int .i64 x.frm) ∧ w.cell? ⟨b, o + 2, none⟩ = some (.int .i64 x.to)
theorem mv_at {w : World} {p : Option Addr} {n c : Nat} {l : List MvM} (h : MvL w (.slice p n c) l) (hn : l.length = n) {k : Nat} (hk : k < n) : ∃ b o x, p = some ⟨b, o, none⟩ ∧ l[k]? = some x ∧ ∀ w', Gr w w' → MvCell w' b (o + k * 3) x := by
 obtain ⟨b, o, x, hp, hx, hc⟩ := SlL.at encMv_len h hn hk
 exact ⟨b, o, x, hp, hx, fun w' g => ⟨hc 0 _ rfl w' g, hc 1 _ rfl w' g, hc 2 _ rfl w' g⟩⟩
theorem mv_ext {x y : MvM} : x = y ↔ x.item = y.item ∧ x.frm = y.frm ∧ x.to = y.to := by
 obtain ⟨a, b, c⟩ := x
 obtain ⟨d, e, f⟩ := y
 simp
theorem run_guard_mv (op : BinOp) (s u : Operand) (w : World) (xs ys : Array Value) : (eqGuard op 34 s u (.agg xs) (.agg ys)).run Tryz.prog w = .ok () w := by
 have q1 : Tryz.prog.eqGuardType Tryz.prog.depth 34 = false := by kernel_rfl
 cases op <;> simp [eqGuard, run_program, q1]
theorem part_mv (w : World) (xs : Array Value) (o : Nat) (v : Value) (h : xs[o]? = some v) : (part 3 xs o).run Tryz.prog w = .ok v w := by
 unfold part
 have q : (isAgg 3).run Tryz.prog w = .ok false w := by
  simp [isAgg, run_underlying Tryz.underlying3]
 simp only [Sem.run_bind, q, Result.andThen_ok]
 simp [h]
theorem eqIn_int (w : World) (d : Nat) (a b : Int) : (Op.equalIn (d + 1) 3 (.int .i64 a) (.int .i64 b)).run Tryz.prog w = .ok (a == b) w := by
 simp [Op.equalIn, run_underlying Tryz.underlying3]
def mvFields : Array Field := #[{ name := "Item", type := 3, offset := 0, embedded := false, tag := "", pkgPath := "", byteOffset := 0 },
    { name := "From", type := 3, offset := 1, embedded := false, tag := "", pkgPath := "", byteOffset := 8 },
    { name := "To", type := 3, offset := 2, embedded := false, tag := "", pkgPath := "", byteOffset := 16 }]
theorem eqIn_mv (w : World) (d : Nat) (x y : MvM) : (Op.equalIn (d + 2) 34 (.agg #[.int .i64 x.item, .int .i64 x.frm, .int .i64 x.to]) (.agg #[.int .i64 y.item, .int .i64 y.frm, .int .i64 y.to])).run Tryz.prog w = .ok (x.item == y.item && (x.frm == y.frm && x.to == y.to)) w := by
 have q2 : Tryz.prog.stoodInHeld 34 = false := by kernel_rfl
 have q3 : Tryz.prog.underlying 34 = some (.struct mvFields) := Tryz.underlying34
 have e0 := fun (a b c : Int) w => part_mv w #[.int .i64 a, .int .i64 b, .int .i64 c] 0 _ rfl
 have e1 := fun (a b c : Int) w => part_mv w #[.int .i64 a, .int .i64 b, .int .i64 c] 1 _ rfl
 have e2 := fun (a b c : Int) w => part_mv w #[.int .i64 a, .int .i64 b, .int .i64 c] 2 _ rfl
 have e := fun w a b => eqIn_int w d a b
 rw [Op.equalIn]
 simp only [Sem.run_bind, run_underlying q3, Result.andThen_ok, run_program, q2, Bool.false_eq_true, if_false]
 rw [← Array.forIn_toList]
 unfold mvFields
 simp only [List.forIn_cons, Sem.run_bind, Sem.run_ite, e0, e1, e2, e, Result.andThen_ok]
 by_cases h1 : x.item = y.item
 ·by_cases h2 : x.frm = y.frm
  ·by_cases h3 : x.to = y.to
   ·simp [h1, h2, h3, e0, e1, e2, e]
   ·simp [h1, h2, h3, e0, e1, e2, e]
  ·simp [h1, h2, e0, e1, e2, e]
 ·simp [h1, e0, e1, e2, e]
theorem run_neq_mv (w : World) (x y : MvM) : (binOp .neq 34 (.agg #[.int .i64 x.item, .int .i64 x.frm, .int .i64 x.to]) (.agg #[.int .i64 y.item, .int .i64 y.frm, .int .i64 y.to])).run Tryz.prog w = .ok (.bool (!(x.item == y.item && (x.frm == y.frm && x.to == y.to)))) w := by
 have := eqIn_mv w 9998 x y
 simp only [binOp, Op.equal, Op.maxDepth, Sem.run_bind, this, Result.andThen_ok, Sem.run_pure]
set_option maxRecDepth 100000 in
set_option maxHeartbeats 800000 in
theorem ref_Same23 (w : World) (p q : Option Addr) (c d : Nat) (l m : List MvM) (hl : MvL w (.slice p l.length c) l) (hm : MvL w (.slice q m.length d) m) (hb : l.length ≤ 1000000000) (hb2 : m.length ≤ 1000000000) :
  Calls Tryz.prog 18 #[.slice p l.length c, .slice q m.length d] w (Ret w fun r _ => Tells (l = m) r) := by
 have HL := Lib.hid hl
 have HM := Lib.hid hm
 clear hl hm
 by_cases e : l.length = m.length
 ·have e0 : ((l.length : Int) != (m.length : Int)) = false := by simp [e]
  have E := Lib.hid e
  clear e
  go_enter Tryz.func18, Tryz.ntmps18
  go_wp2_with fail
  go_loopw [5] (fun i w9 => ∃ k : Nat, i = .int .i64 (k : Int) ∧ k ≤ l.length ∧ (∀ j, j < k → l[j]? = m[j]?) ∧ Gr w w9) (fun i _ => l.length - (RowKit.intOf i).toNat)
  case atStart => exact ⟨0, rfl, Nat.zero_le _, fun j hj => by omega, Gr.refl _⟩
  case round =>
   obtain ⟨k, rfl, hk, hp, hg⟩ := hrel
   have HP := Lib.hid hp
   have G := Lib.hid hg
   clear hp hg
   by_cases hlt : k < l.length
   ·have hlt' : (k : Int) < (l.length : Int) := by omega
    have hlt2 : (k : Int) < (m.length : Int) := by have := E.out; omega
    obtain ⟨b, o, x, rfl, hx, hc⟩ := mv_at (HL.out.grow G.out) rfl hlt
    obtain ⟨b2, o2, y, rfl, hy, hc2⟩ := mv_at (HM.out.grow G.out) rfl (show k < m.length by have := E.out; omega)
    have HX := Lib.hid hx
    have HY := Lib.hid hy
    clear hx hy
    have a0 := fun w' g => (hc w' g).1
    have a1 := fun w' g => (hc w' g).2.1
    have a2 := fun w' g => (hc w' g).2.2
    have b0 := fun w' g => (hc2 w' g).1
    have b1 := fun w' g => (hc2 w' g).2.1
    have b2 := fun w' g => (hc2 w' g).2.2
    clear hc hc2
    go_wp2_with fail
    have g0 : Gr wr wr.drew := (Gr.refl _).drew
    obtain ⟨tq, hq⟩ : ∃ t, (x.item == y.item && (x.frm == y.frm && x.to == y.to)) = t := ⟨_, rfl⟩
    have q1 := fun w s u => run_guard_mv .neq s u w #[.int .i64 x.item, .int .i64 x.frm, .int .i64 x.to] #[.int .i64 y.item, .int .i64 y.frm, .int .i64 y.to]
    have q2 := fun w => run_neq_mv w x y
    rw [hq] at q2
    have HQ := Lib.hid (show tq = true ↔ x = y by rw [← hq, mv_ext]; simp [and_assoc])
    clear hq
    refine wp_region_fast [(0, true), (1, true), (2, true), (3, true), (4, true), (5, true), (6, true), (7, true), (8, true)] (by kernel_rfl) (by kernel_rfl) rfl (by kernel_rfl) (fun _ _ d _ _ h => by cases d <;> exact h) ?_
    repeat (refine wpE_readB (v := ?_) g0 rfl rfl (fun w' hg => ?_) (fun K hK => ?_); rotate_left; (go_simp; rfl); go_simp; refine hK _ _ ?_; clear hK K)
    refine wpE_nil ?_
    have G := Lib.hid (G.out.trans g0)
    clear a0 a1 a2 b0 b1 b2 g0 q1 q2
    cases tq
    ·go_wp2_with fail
     try rw [Exit.noGoto_ret]
     go_ret
     exact ⟨_, rfl, G.out, Tells.no fun h => by
      have h1 := HX.out
      have h2 := HY.out
      rw [h] at h1
      rw [h1] at h2
      injection h2 with h2
      have := HQ.out.2 h2
      cases this⟩
    ·go_wp2_with fail
     refine ⟨⟨k + 1, by go_num, by omega, fun j hj => ?_, G.out⟩, by simp [RowKit.intOf]; omega⟩
     by_cases h : j = k
     ·subst h
      rw [HX.out, HY.out, HQ.out.1 rfl]
     ·exact HP.out j (by omega)
   ·obtain rfl : k = l.length := by omega
    go_wp2_with fail
    try rw [Exit.noGoto_ret]
    go_ret
    exact ⟨_, rfl, G.out, Tells.yes (List.ext_getElem? fun j => by
     rcases Nat.lt_or_ge j l.length with h | h
     ·exact HP.out j h
     ·rw [List.getElem?_eq_none h, List.getElem?_eq_none (by have := E.out; omega)])⟩
 ·have e0 : ((l.length : Int) != (m.length : Int)) = true := by simp; omega
  have E := Lib.hid e
  go_enter Tryz.func18, Tryz.ntmps18
  go_wp2_with fail
  try rw [Exit.noGoto_ret]
  go_ret
  exact ⟨_, rfl, Gr.refl _, Tells.no fun h => E.out (by rw [h])⟩
def cmpI (a b : Int) : Int := if a < b then -1 else if b < a then 1 else 0
def orL : List Int → Int
 | [] => 0
 | x :: l => if x ≠ 0 then x else orL l
def cmpMv (x y : MvM) : Int := orL [cmpI x.item y.item, cmpI x.frm y.frm, cmpI x.to y.to]
theorem cmp_nan (w : World) (a : Int) : Calls Tryz.prog 84 #[.int .i64 a] w (Ret w fun r w' => r = .bool false ∧ w' = w) := by
 have e0 : (a != a) = false := by simp
 go_enter Tryz.func84, Tryz.ntmps84
 go_wp2_with fail
 go_ret
 exact ⟨_, rfl, Gr.refl _, rfl, rfl⟩
theorem cmp_int (w : World) (a b : Int) : Calls Tryz.prog 51 #[.int .i64 a, .int .i64 b] w (Ret w fun r w' => r = .int .i64 (cmpI a b) ∧ w' = w) := by
 go_enter Tryz.func51, Tryz.ntmps51
 go_wp2_with fail
 refine (cmp_nan w a).mono ?_
 rintro _ _ ⟨_, rfl, _, rfl, rfl⟩
 go_wp2_with fail
 refine (cmp_nan _ b).mono ?_
 rintro _ _ ⟨_, rfl, _, rfl, rfl⟩
 by_cases h1 : a < b
 ·have HR := Lib.hid (show cmpI a b = -1 from by unfold cmpI; rw [if_pos h1])
  go_wp2_with fail
  try rw [Exit.noGoto_ret]
  go_ret
  exact ⟨_, rfl, Gr.refl _, by rw [HR.out]; rfl, rfl⟩
 ·by_cases h2 : b < a
  ·have HR := Lib.hid (show cmpI a b = 1 from by unfold cmpI; rw [if_neg h1, if_pos h2])
   go_wp2_with fail
   try rw [Exit.noGoto_ret]
   go_ret
   exact ⟨_, rfl, Gr.refl _, by rw [HR.out]; rfl, rfl⟩
  ·have HR := Lib.hid (show cmpI a b = 0 from by unfold cmpI; rw [if_neg h1, if_neg h2])
   go_wp2_with fail
   try rw [Exit.noGoto_ret]
   go_ret
   exact ⟨_, rfl, Gr.refl _, by rw [HR.out]; rfl, rfl⟩
theorem orL_at : ∀ (l : List Int) (k : Nat) (x : Int), l[k]? = some x → x ≠ 0 → (∀ (j : Nat) (y : Int), j < k → l[j]? = some y → y = 0) → orL l = x
 | [], k, x, h, _, _ => by simp at h
 | z :: l, 0, x, h, h0, _ => by
  simp at h; subst h
  unfold orL; rw [if_pos h0]
 | z :: l, k + 1, x, h, h0, hb => by
  have hz : z = 0 := hb 0 z (by omega) rfl
  unfold orL
  rw [if_neg (by simpa using hz)]
  exact orL_at l k x (by simpa using h) h0 (fun j y hj hy => hb (j + 1) y (by omega) (by simpa using hy))
theorem orL_zero : ∀ (l : List Int), (∀ (j : Nat) (y : Int), j < l.length → l[j]? = some y → y = 0) → orL l = 0
 | [], _ => rfl
 | z :: l, hb => by
  have hz : z = 0 := hb 0 z (by simp) rfl
  unfold orL
  rw [if_neg (by simpa using hz)]
  exact orL_zero l (fun j y hj hy => hb (j + 1) y (by simpa using hj) (by simpa using hy))
theorem or_int (w : World) (p : Option Addr) (c : Nat) (l : List Int) (hl : IntL w (.slice p l.length c) l) (hb : l.length ≤ 1000000) :
  Calls Tryz.prog 50 #[.slice p l.length c] w (Ret w fun r _ => r = .int .i64 (orL l)) := by
 have HL := Lib.hid hl
 clear hl
 go_enter Tryz.func50, Tryz.ntmps50
 go_wp2_with fail
 go_loopw [8] (fun i w9 => ∃ k : Nat, i = .int .i64 (k : Int) ∧ k ≤ l.length ∧ (∀ (j : Nat) (x : Int), j < k → l[j]? = some x → x = 0) ∧ Gr w w9) (fun i _ => l.length - (RowKit.intOf i).toNat)
 case atStart => exact ⟨0, rfl, Nat.zero_le _, fun j x hj => by omega, Gr.refl _⟩
 case round =>
  obtain ⟨k, rfl, hk, hp, hg⟩ := hrel
  have HP := Lib.hid hp
  have GL := Lib.hid hg
  clear hp hg
  by_cases hlt : k < l.length
  ·have hlt' : (k : Int) < (l.length : Int) := by omega
   obtain ⟨b, o, x, rfl, hx, hc⟩ := int_at (HL.out.grow GL.out) rfl hlt
   have HX := Lib.hid hx
   have c0 := hc _ (Gr.refl _)
   clear hx hc
   by_cases e : x = 0
   ·subst e
    go_wp2_with fail
    refine ⟨⟨k + 1, by go_num, by omega, fun j y hj hy => ?_, GL.out⟩, by simp [RowKit.intOf]; omega⟩
    by_cases h : j = k
    ·subst h
     exact Option.some.inj (hy.symm.trans HX.out)
    ·exact HP.out j y (by omega) hy
   ·have e0 : (x != 0) = true := by simpa using e
    have E := Lib.hid e
    clear e
    go_wp2_with fail
    try rw [Exit.noGoto_ret]
    go_ret
    exact ⟨_, rfl, GL.out, by rw [orL_at l k x HX.out E.out HP.out]; rfl⟩
  ·obtain rfl : k = l.length := by omega
   go_wp2_with fail
   try rw [Exit.noGoto_ret]
   go_ret
   exact ⟨_, rfl, GL.out, by rw [orL_zero l HP.out]; rfl⟩
set_option maxRecDepth 100000 in
set_option maxHeartbeats 800000 in
theorem mv_Compare (w : World) (x y : MvM) : Calls Tryz.prog 25 #[.agg (moveV x), .agg (moveV y)] w (Ret w fun r _ => r = .int .i64 (cmpMv x y)) := by
 have B0 := Cells.new w (moveV x) 34
 have B1 := Cells.new (w.alloc (.cells (moveV x) 34)) (moveV y) 34
 simp only [World.size_alloc] at B1
 have H := Lib.hid (show _ ∧ _ ∧ _ from ⟨B0.1.trans B1.1, B0.2.grow B1.1, B1.2⟩)
 clear B0 B1
 unfold moveV at H ⊢
 go_enter Tryz.func25, Tryz.ntmps25
 go_wp2_with fail
 generalize w.heap.size + 1 = by_ at H ⊢
 generalize w.heap.size = bx at H ⊢
 generalize (w.alloc _).alloc _ = W at H ⊢
 have G := Lib.hid (show Gr w W from H.out.1)
 have TX := Lib.hid H.out.2.1
 have TY := Lib.hid H.out.2.2
 clear H
 have g0 : Gr W W.drew := (Gr.refl _).drew
 have x0 : ∀ w', Gr W w' → w'.cell? ⟨bx, 0, none⟩ = some (.int .i64 x.item) := TX.out.c 0 rfl
 have x1 : ∀ w', Gr W w' → w'.cell? ⟨bx, 1, none⟩ = some (.int .i64 x.frm) := TX.out.c 1 rfl
 have x2 : ∀ w', Gr W w' → w'.cell? ⟨bx, 2, none⟩ = some (.int .i64 x.to) := TX.out.c 2 rfl
 have y0 : ∀ w', Gr W w' → w'.cell? ⟨by_, 0, none⟩ = some (.int .i64 y.item) := TY.out.c 0 rfl
 have y1 : ∀ w', Gr W w' → w'.cell? ⟨by_, 1, none⟩ = some (.int .i64 y.frm) := TY.out.c 1 rfl
 have y2 : ∀ w', Gr W w' → w'.cell? ⟨by_, 2, none⟩ = some (.int .i64 y.to) := TY.out.c 2 rfl
 refine wp_region_fast [(0, true), (1, true), (2, true), (3, true), (5, true), (6, true), (7, true), (8, true), (10, true), (11, true), (12, true), (13, true), (4, false), (9, false), (14, false), (15, false), (16, false), (17, true)] (by kernel_rfl) (by kernel_rfl) rfl (by kernel_rfl) (fun _ _ d _ _ h => by cases d <;> exact h) ?_
 repeat (refine wpE_readB (v := ?_) g0 rfl rfl (fun w' hg => ?_) (fun K hK => ?_); rotate_left; (go_simp; rfl); go_simp; refine hK _ _ ?_; clear hK K)
 refine wpE_fn (args := ?_) rfl rfl rfl rfl rfl rfl (by kernel_rfl) (by kernel_rfl) ?_ (fun K hK => ?_)
 rotate_left
 ·go_simp; rfl
 refine (cmp_int _ _ _).mono ?_
 rintro _ _ ⟨_, rfl, _, rfl, rfl⟩
 refine ⟨_, rfl, Gr.refl _, ?_⟩
 go_simp
 refine hK _ _ ?_
 clear hK K
 refine wpE_fn (args := ?_) rfl rfl rfl rfl rfl rfl (by kernel_rfl) (by kernel_rfl) ?_ (fun K hK => ?_)
 rotate_left
 ·go_simp; rfl
 refine (cmp_int _ _ _).mono ?_
 rintro _ _ ⟨_, rfl, _, rfl, rfl⟩
 refine ⟨_, rfl, Gr.refl _, ?_⟩
 go_simp
 refine hK _ _ ?_
 clear hK K
 refine wpE_fn (args := ?_) rfl rfl rfl rfl rfl rfl (by kernel_rfl) (by kernel_rfl) ?_ (fun K hK => ?_)
 rotate_left
 ·go_simp; rfl
 refine (cmp_int _ _ _).mono ?_
 rintro _ _ ⟨_, rfl, _, rfl, rfl⟩
 refine ⟨_, rfl, Gr.refl _, ?_⟩
 go_simp
 refine hK _ _ ?_
 clear hK K
 generalize hW : W.drew = W1 at g0 ⊢
 have B := SlL.new W1 3 encI_len [cmpI x.item y.item, cmpI x.frm y.frm, cmpI x.to y.to] #[.int .i64 (cmpI x.item y.item), .int .i64 (cmpI x.frm y.frm), .int .i64 (cmpI x.to y.to)] 3 rfl rfl (by decide)
 refine wpE_do rfl rfl (fun K hK => ?_)
 go_simp
 refine ⟨fun _ => B.1, hK _ _ ?_⟩
 clear hK K
 refine wpE_fn (args := ?_) rfl rfl rfl rfl rfl rfl (by kernel_rfl) (by kernel_rfl) ?_ (fun K hK => ?_)
 rotate_left
 ·go_simp; rfl
 refine (or_int _ _ _ [cmpI x.item y.item, cmpI x.frm y.frm, cmpI x.to y.to] B.2 (by simp)).mono ?_
 rintro _ w4 ⟨_, rfl, g4, rfl⟩
 refine ⟨_, rfl, g4, ?_⟩
 go_simp
 refine hK _ _ ?_
 clear hK K
 have g5 := (g0.trans B.1).trans g4
 repeat (refine wpE_readB (v := ?_) g5 rfl rfl (fun w' hg => ?_) (fun K hK => ?_); rotate_left; (go_simp; rfl); go_simp; refine hK _ _ ?_; clear hK K)
 refine wpE_nil ?_
 go_wp2_with fail
 go_ret
 exact ⟨_, rfl, G.out.trans g5, rfl⟩
end Go.Proofs.YtnlocdijdfclcaaGreatDoor

/-
 exodusref20.Few, Same.
-/
import Derived.Test.YtnlocdijdfclcaaGreatDoorPlp
namespace Go.Proofs.YtnlocdijdfclcaaGreatDoor
open Go.RowKit Go.Lib Lex
set_option linter.unusedVariables false
set_option linter.unusedSimpArgs false

set_option maxRecDepth 100000 in
set_option maxHeartbeats 800000 in
theorem ref_Few20 (w : World) (p : Option Addr) (c : Nat) (L : List RowU) (hp : PlcAt w p c L) :
  Calls Tryz.prog 7 #[plcV p c L] w (Ret w fun r _ => Tells (FewP (usOf L)) r) := by
 have B := Cells.new w #[.slice p L.length c] 32
 have HB := Lib.hid B
 have HP := Lib.hid (hp.grow B.1)
 have hbig := hp.big
 have hub := Lib.hid hp.ubig
 clear B hp
 unfold plcV
 go_enter Tryz.func7, Tryz.ntmps7
 go_wp2_with fail
 generalize w.heap.size = bp at HB ⊢
 generalize w.alloc _ = W at HB HP ⊢
 have G := Lib.hid HB.out.1
 have TP := Lib.hid HB.out.2
 clear HB
 go_loopw [3] (fun i w9 => ∃ k : Nat, i = .int .i64 (k : Int) ∧ k ≤ L.length ∧ (∀ (j : Nat) (x : RowU), j < k → L[j]? = some x → x.us.length ≤ 24) ∧ w9 = W) (fun i _ => L.length - (RowKit.intOf i).toNat)
 case atStart => exact ⟨0, rfl, Nat.zero_le _, fun j x hj => by omega, rfl⟩
 case round =>
  obtain ⟨k, rfl, hk, hq, rfl⟩ := hrel
  have HQ := Lib.hid hq
  clear hq
  have p0 := TP.out.at 0 rfl
  by_cases hlt : k < L.length
  ·have hlt' : (k : Int) < (L.length : Int) := by omega
   obtain ⟨b, o, x, rfl, hx, hc⟩ := row_at HP.out.rows rfl hlt
   have HX := Lib.hid hx
   have c0 := hc _ (Gr.refl _)
   have hxb := hub.out x (List.mem_of_getElem? hx)
   clear hx hc
   by_cases h24 : 24 < x.us.length
   ·have h24' : (24 : Int) < (x.us.length : Int) := by omega
    have HH := Lib.hid h24
    clear h24
    go_wp2_with fail
    try rw [Exit.noGoto_ret]
    go_ret
    refine ⟨_, rfl, G.out, Tells.no fun h => ?_⟩
    have := h.2 x.us (List.mem_of_getElem? (usOf_at HX.out))
    have := HH.out
    omega
   ·have h24' : (x.us.length : Int) ≤ 24 := by omega
    have HH := Lib.hid (show x.us.length ≤ 24 by omega)
    have hk1 : IntKind.i64.wrap ((k : Int) + 1) = (k : Int) + 1 := by rw [IntKind.wrap_i64]; omega
    clear h24
    go_wp2_with fail
    refine ⟨⟨k + 1, by go_num, by omega, fun j y hj hy => ?_, by first | rfl | trivial⟩, by simp [RowKit.intOf]; omega⟩
    by_cases h : j = k
    ·subst h
     obtain rfl : y = x := Option.some.inj (hy.symm.trans HX.out)
     exact HH.out
    ·exact HQ.out j y (by omega) hy
  ·obtain rfl : k = L.length := by omega
   by_cases h24 : L.length ≤ 24
   ·have h24' : (L.length : Int) ≤ 24 := by omega
    have HH := Lib.hid h24
    clear h24
    go_wp2_with fail
    go_ret
    exact ⟨_, rfl, G.out, Tells.yes ⟨by rw [usOf_len]; exact HH.out, fun l hl => by
     obtain ⟨x, hx, rfl⟩ := List.mem_map.1 hl
     obtain ⟨i, hi, rfl⟩ := List.getElem_of_mem hx
     exact HQ.out i _ hi (List.getElem?_eq_getElem hi)⟩⟩
   ·have h24' : (24 : Int) < (L.length : Int) := by omega
    have HH := Lib.hid (show 24 < L.length by omega)
    clear h24
    go_wp2_with fail
    go_ret
    refine ⟨_, rfl, G.out, ?_⟩
    show Tells _ (Value.bool (decide ((L.length : Int) ≤ 24)))
    rw [show decide ((L.length : Int) ≤ 24) = false by have := HH.out; simp; omega]
    refine Tells.no fun h => ?_
    have := h.1
    rw [usOf_len] at this
    have := HH.out
    omega
theorem un_ext {x y : UnitM} : x = y ↔ x.mach = y.mach ∧ x.st = y.st := by
 obtain ⟨a, b⟩ := x
 obtain ⟨d, e⟩ := y
 simp
theorem run_guard_un (op : BinOp) (s u : Operand) (w : World) (xs ys : Array Value) : (eqGuard op 69 s u (.agg xs) (.agg ys)).run Tryz.prog w = .ok () w := by
 have q1 : Tryz.prog.eqGuardType Tryz.prog.depth 69 = false := by kernel_rfl
 cases op <;> simp [eqGuard, run_program, q1]
theorem part_un (w : World) (xs : Array Value) (o : Nat) (v : Value) (h : xs[o]? = some v) : (part 3 xs o).run Tryz.prog w = .ok v w := by
 unfold part
 have q : (isAgg 3).run Tryz.prog w = .ok false w := by
  simp [isAgg, run_underlying Tryz.underlying3]
 simp only [Sem.run_bind, q, Result.andThen_ok]
 simp [h]
theorem eqIn_intU (w : World) (d : Nat) (a b : Int) : (Op.equalIn (d + 1) 3 (.int .i64 a) (.int .i64 b)).run Tryz.prog w = .ok (a == b) w := by
 simp [Op.equalIn, run_underlying Tryz.underlying3]
def unFields : Array Field := #[{ name := "Machine", type := 3, offset := 0, embedded := false, tag := "", pkgPath := "", byteOffset := 0 },
    { name := "State", type := 3, offset := 1, embedded := false, tag := "", pkgPath := "", byteOffset := 8 }]
theorem eqIn_un (w : World) (d : Nat) (x y : UnitM) : (Op.equalIn (d + 2) 69 (.agg #[.int .i64 x.mach, .int .i64 x.st]) (.agg #[.int .i64 y.mach, .int .i64 y.st])).run Tryz.prog w = .ok (x.mach == y.mach && x.st == y.st) w := by
 have q2 : Tryz.prog.stoodInHeld 69 = false := by kernel_rfl
 have q3 : Tryz.prog.underlying 69 = some (.struct unFields) := Tryz.underlying69
 have e0 := fun (a b : Int) w => part_un w #[.int .i64 a, .int .i64 b] 0 _ rfl
 have e1 := fun (a b : Int) w => part_un w #[.int .i64 a, .int .i64 b] 1 _ rfl
 have e := fun w a b => eqIn_intU w d a b
 rw [Op.equalIn]
 simp only [Sem.run_bind, run_underlying q3, Result.andThen_ok, run_program, q2, Bool.false_eq_true, if_false]
 rw [← Array.forIn_toList]
 unfold unFields
 simp only [List.forIn_cons, Sem.run_bind, Sem.run_ite, e0, e1, e, Result.andThen_ok]
 by_cases h1 : x.mach = y.mach
 ·by_cases h2 : x.st = y.st
  ·simp [h1, h2, e0, e1, e]
  ·simp [h1, h2, e0, e1, e]
 ·simp [h1, e0, e1, e]
theorem run_neq_un (w : World) (x y : UnitM) : (binOp .neq 69 (.agg #[.int .i64 x.mach, .int .i64 x.st]) (.agg #[.int .i64 y.mach, .int .i64 y.st])).run Tryz.prog w = .ok (.bool (!(x.mach == y.mach && x.st == y.st))) w := by
 have := eqIn_un w 9998 x y
 simp only [binOp, Op.equal, Op.maxDepth, Sem.run_bind, this, Result.andThen_ok, Sem.run_pure]
set_option maxRecDepth 100000 in
set_option maxHeartbeats 1600000 in
theorem ref_Same20 (w : World) (p q : Option Addr) (c d : Nat) (L M : List RowU) (hp : PlcAt w p c L) (hq : PlcAt w q d M) :
  Calls Tryz.prog 12 #[plcV p c L, plcV q d M] w (Ret w fun r _ => Tells (usOf L = usOf M) r) := by
 have B0 := Cells.new w #[.slice p L.length c] 32
 have B1 := Cells.new (w.alloc (.cells #[.slice p L.length c] 32)) #[.slice q M.length d] 32
 simp only [World.size_alloc] at B1
 have H := Lib.hid (show _ ∧ _ ∧ _ from ⟨B0.1.trans B1.1, B0.2.grow B1.1, B1.2⟩)
 have HP := Lib.hid (hp.grow (B0.1.trans B1.1))
 have HQ := Lib.hid (hq.grow (B0.1.trans B1.1))
 have p0 := (B0.2.grow B1.1).at 0 rfl
 have q0 := B1.2.at 0 rfl
 have hb1 := hp.big
 have hb2 := hq.big
 have hu1 := Lib.hid hp.ubig
 have hu2 := Lib.hid hq.ubig
 clear B0 B1 hp hq
 unfold plcV
 by_cases e : L.length = M.length
 ·have e0 : ((L.length : Int) != (M.length : Int)) = false := by simp [e]
  have E := Lib.hid e
  clear e
  go_enter Tryz.func12, Tryz.ntmps12
  go_wp2_with fail
  clear p0 q0
  generalize w.heap.size + 1 = bq at H ⊢
  generalize w.heap.size = bp at H ⊢
  generalize (w.alloc _).alloc _ = W at H HP HQ ⊢
  have G := Lib.hid H.out.1
  have TP := Lib.hid H.out.2.1
  have TQ := Lib.hid H.out.2.2
  clear H
  go_loopw [5] (fun i w9 => ∃ k : Nat, i = .int .i64 (k : Int) ∧ k ≤ L.length ∧ (∀ j, j < k → (usOf L)[j]? = (usOf M)[j]?) ∧ Gr W w9) (fun i _ => L.length - (RowKit.intOf i).toNat)
  case atStart => exact ⟨0, rfl, Nat.zero_le _, fun j hj => by omega, Gr.refl _⟩
  case round =>
   obtain ⟨k, rfl, hk, hq, hg⟩ := hrel
   have HE := Lib.hid hq
   have GL := Lib.hid hg
   clear hq hg
   have p0 := (TP.out.grow GL.out).at 0 rfl
   by_cases hlt : k < L.length
   ·have hlt' : (k : Int) < (L.length : Int) := by omega
    have hlt2 : (k : Int) < (M.length : Int) := by have := E.out; omega
    obtain ⟨b, o, x, rfl, hx, _⟩ := row_at (HP.out.rows.grow GL.out) rfl hlt
    obtain ⟨b2, o2, y, rfl, hy, _⟩ := row_at (HQ.out.rows.grow GL.out) rfl (show k < M.length by have := E.out; omega)
    have HX := Lib.hid hx
    have HY := Lib.hid hy
    have hxb := hu1.out x (List.mem_of_getElem? hx)
    have hyb := hu2.out y (List.mem_of_getElem? hy)
    have hon := HP.out.uns x (List.mem_of_getElem? hx)
    have hon2 := HQ.out.uns y (List.mem_of_getElem? hy)
    obtain ⟨px, cx, lx⟩ := x
    obtain ⟨py, cy, ly⟩ := y
    have HON := Lib.hid (show UnL W (.slice px lx.length cx) lx from hon)
    have HON2 := Lib.hid (show UnL W (.slice py ly.length cy) ly from hon2)
    dsimp only at hxb hyb
    have c0 := row_cell (HP.out.rows.grow GL.out) hx
    have c1 := row_cell (HQ.out.rows.grow GL.out) hy
    have s0 := (TP.out.grow GL.out).c 0 rfl
    have s1 := (TQ.out.grow GL.out).c 0 rfl
    dsimp only at c0 c1
    clear hx hy hon hon2
    go_wp2_with fail
    clear p0
    have g0 : Gr wr wr.drew := (Gr.refl _).drew
    refine wp_region_fast [(0, true), (1, true), (2, true), (3, true), (4, true), (5, true), (6, true), (7, true), (8, true), (9, true), (10, true), (11, true), (12, true)] (by kernel_rfl) (by kernel_rfl) rfl (by kernel_rfl) (fun _ _ d _ _ h => by cases d <;> exact h) ?_
    repeat (refine wpE_readB (v := ?_) g0 rfl rfl (fun w' hg => ?_) (fun K hK => ?_); rotate_left; (go_simp; rfl); go_simp; refine hK _ _ ?_; clear hK K)
    refine wpE_nil ?_
    by_cases e2 : lx.length = ly.length
    ·have e20 : ((lx.length : Int) != (ly.length : Int)) = false := by simp [e2]
     have E2 := Lib.hid e2
     have GX := Lib.hid (GL.out.trans g0)
     clear s0 s1 c0 c1 g0
     clear e2
     go_wp2_with fail
     go_loopw [6] (fun i w9 => ∃ n : Nat, i = .int .i64 (n : Int) ∧ n ≤ lx.length ∧ (∀ j, j < n → lx[j]? = ly[j]?) ∧ Gr W w9) (fun i _ => lx.length - (RowKit.intOf i).toNat)
     case atStart => exact ⟨0, rfl, Nat.zero_le _, fun j hj => by omega, GX.out⟩
     case round =>
      obtain ⟨n, rfl, hn, hq, hg⟩ := hrel
      have HN := Lib.hid hq
      have GN := Lib.hid hg
      clear hq hg
      have p0 := (TP.out.grow GN.out).at 0 rfl
      have c0 := row_cell (HP.out.rows.grow GN.out) HX.out _ (Gr.refl _)
      dsimp only at c0
      by_cases hln : n < lx.length
      ·have hln' : (n : Int) < (lx.length : Int) := by omega
       have hln2 : (n : Int) < (ly.length : Int) := by have := E2.out; omega
       obtain ⟨bu, ou, u, rfl, hu, _⟩ := unit_at (HON.out.grow GN.out) rfl hln
       obtain ⟨bv, ov, z, rfl, hv, _⟩ := unit_at (HON2.out.grow GN.out) rfl (show n < ly.length by have := E2.out; omega)
       have HUU := Lib.hid hu
       have HVV := Lib.hid hv
       have a0 := fun w' g => (unit_cell (HON.out.grow GN.out) hu w' g).1
       have a1 := fun w' g => (unit_cell (HON.out.grow GN.out) hu w' g).2
       have b0 := fun w' g => (unit_cell (HON2.out.grow GN.out) hv w' g).1
       have b1 := fun w' g => (unit_cell (HON2.out.grow GN.out) hv w' g).2
       clear hu hv
       have r0 := row_cell (HP.out.rows.grow GN.out) HX.out
       have r1 := row_cell (HQ.out.rows.grow GN.out) HY.out
       have s0 := (TP.out.grow GN.out).c 0 rfl
       have s1 := (TQ.out.grow GN.out).c 0 rfl
       dsimp only at r0 r1
       go_wp2_with fail
       clear p0 c0
       have g0 : Gr wr wr.drew := (Gr.refl _).drew
       obtain ⟨tq, hq⟩ : ∃ t, (u.mach == z.mach && u.st == z.st) = t := ⟨_, rfl⟩
       have q1 := fun w s u' => run_guard_un .neq s u' w #[.int .i64 u.mach, .int .i64 u.st] #[.int .i64 z.mach, .int .i64 z.st]
       have q2 := fun w => run_neq_un w u z
       rw [hq] at q2
       have HQQ := Lib.hid (show tq = true ↔ u = z by rw [← hq, un_ext]; simp)
       clear hq
       refine wp_region_fast [(0, true), (1, true), (2, true), (3, true), (4, true), (5, true), (6, true), (7, true), (8, true), (9, true), (10, true), (11, true), (12, true), (13, true), (14, true), (15, true), (16, true)] (by kernel_rfl) (by kernel_rfl) rfl (by kernel_rfl) (fun _ _ d _ _ h => by cases d <;> exact h) ?_
       repeat (refine wpE_readB (v := ?_) g0 rfl rfl (fun w' hg => ?_) (fun K hK => ?_); rotate_left; (go_simp; rfl); go_simp; refine hK _ _ ?_; clear hK K)
       refine wpE_nil ?_
       have GM := Lib.hid (GN.out.trans g0)
       clear a0 a1 b0 b1 r0 r1 s0 s1 g0 q1 q2
       cases tq
       ·go_wp2_with fail
        try rw [Exit.noGoto_ret]
        go_ret
        exact ⟨_, rfl, G.out.trans GM.out, Tells.no fun h => by
         have h1 := usOf_at HX.out
         have h2 := usOf_at HY.out
         rw [h] at h1
         have h3 := Option.some.inj (h1.symm.trans h2)
         dsimp only at h3
         have h4 := HUU.out
         rw [h3] at h4
         have h5 := Option.some.inj (h4.symm.trans HVV.out)
         have := HQQ.out.2 h5
         cases this⟩
       ·have hk1 : IntKind.i64.wrap ((n : Int) + 1) = (n : Int) + 1 := by rw [IntKind.wrap_i64]; omega
        go_wp2_with fail
        refine ⟨⟨n + 1, by go_num, by omega, fun j hj => ?_, GM.out⟩, by simp [RowKit.intOf]; omega⟩
        by_cases h : j = n
        ·subst h
         rw [HUU.out, HVV.out, show u = z by simpa using HQQ.out]
        ·exact HN.out j (by omega)
      ·obtain rfl : n = lx.length := by omega
       have hk1 : IntKind.i64.wrap ((k : Int) + 1) = (k : Int) + 1 := by rw [IntKind.wrap_i64]; omega
       go_wp2_with fail
       refine ⟨⟨k + 1, by go_num, by omega, fun j hj => ?_, GN.out⟩, by simp [RowKit.intOf]; omega⟩
       by_cases h : j = k
       ·subst h
        rw [usOf_at HX.out, usOf_at HY.out]
        congr 1
        refine List.ext_getElem? fun i => ?_
        rcases Nat.lt_or_ge i lx.length with h | h
        ·exact HN.out i h
        ·have e9 := E2.out
         show lx[i]? = ly[i]?
         rw [List.getElem?_eq_none h, List.getElem?_eq_none (by omega)]
       ·exact HE.out j (by omega)
    ·have e20 : ((lx.length : Int) != (ly.length : Int)) = true := by simp; omega
     have E2 := Lib.hid e2
     clear s0 s1 c0 c1
     go_wp2_with fail
     try rw [Exit.noGoto_ret]
     go_ret
     exact ⟨_, rfl, (G.out.trans GL.out).trans g0, Tells.no fun h => by
      have h1 := usOf_at HX.out
      have h2 := usOf_at HY.out
      rw [h] at h1
      have h3 := Option.some.inj (h1.symm.trans h2)
      dsimp only at h3
      exact E2.out (by rw [h3])⟩
   ·obtain rfl : k = L.length := by omega
    go_wp2_with fail
    try rw [Exit.noGoto_ret]
    go_ret
    exact ⟨_, rfl, G.out.trans GL.out, Tells.yes (List.ext_getElem? fun j => by
     rcases Nat.lt_or_ge j L.length with h | h
     ·exact HE.out j h
     ·rw [List.getElem?_eq_none (by rw [usOf_len]; exact h), List.getElem?_eq_none (by rw [usOf_len]; have := E.out; omega)])⟩
 ·have e0 : ((L.length : Int) != (M.length : Int)) = true := by simp; omega
  have E := Lib.hid e
  go_enter Tryz.func12, Tryz.ntmps12
  go_wp2_with fail
  try rw [Exit.noGoto_ret]
  go_ret
  exact ⟨_, rfl, H.out.1, Tells.no fun h => E.out (by rw [← usOf_len, h, usOf_len])⟩
end Go.Proofs.YtnlocdijdfclcaaGreatDoor

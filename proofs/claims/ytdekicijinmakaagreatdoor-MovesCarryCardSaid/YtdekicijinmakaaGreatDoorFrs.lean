/-
  append to a full row of the call's own: a new block, nothing old changed.
  The example of chapter 23.
-/
import Derived.Test.YtdekicijinmakaaGreatDoorApp
import Derived.Test.YtdekicijinmakaaGreatDoorMvj
import Derived.Test.YtdekicijinmakaaGreatDoorFind
import Derived.Test.YtdekicijinmakaaGreatDoorTree
namespace Go.Proofs.YtdekicijinmakaaGreatDoor
open Go.RowKit
set_option linter.unusedVariables false
set_option linter.unusedSimpArgs false

section append
variable {α : Type} {enc : α → List Value} {sz : Nat} {P : Program} {o : Oper} {a : Act} {K : Act → World → Prop} {Q : Exit → Act → World → Prop} {w : World}
/-- append(s, x...) at the operation, s full (or nil): nothing old is changed -/
theorem append_fresh (t ty e : TypeId) (z : Value) (bytes : Nat) (ht : P.underlying t = some (.slice e)) (hinfo : (P.info? e).map (fun i => (i.zero, i.size, i.bytes)) = some (some z, sz, bytes)) (hzs : z.cells.size = sz) (hsz : 0 < sz) (he : ∀ x, (enc x).length = sz) (h1 : ∀ x, ∀ u ∈ enc x, u.oneCell' = true)
    (base : Nat) (p : Option Addr) (vx : Value) (l m : List α) (hown : OwnL w base e sz enc (.slice p l.length l.length) l) (hm : SlL w sz enc vx m)
    (hlen : (l.length + m.length) * bytes ≤ 140737488355328) (hlen2 : l.length + m.length ≤ 1000000000000) (hbase : base ≤ w.heap.size) :
    ∃ v' w', (Builtin.append_ #[t, t] ty #[.slice p l.length l.length, vx]).run P w = .ok v' w' ∧ OwnL w' base e sz enc v' (l ++ m) ∧ Gr w w' := by
  obtain ⟨i0, hi, hz0, hz1, hz2⟩ := info_parts hinfo
  obtain ⟨hd, q, c, rfl, k1, k2, k3⟩ := hm
  by_cases hpos : 0 < m.length
  · rcases k3 with rfl | ⟨b, off, rfl, hc⟩
    · omega
    · have hnews : ∀ j u, (m.flatMap enc)[j]? = some u → w.cell? ((⟨b, off, none⟩ : Addr).add j) = some u := fun j u hu => by rw [addr_add0]; exact hc j u hu
      have hone : ∀ u ∈ m.flatMap enc, u.oneCell' = true := fun u hu => by
        obtain ⟨y, _, hy⟩ := List.mem_flatMap.1 hu
        exact h1 y u hy
      have hml := flat_len he m
      obtain ⟨v', w', hr, h2, h3, _⟩ := run_append_own (P := P) w base t ty e i0 z sz bytes ht hi hz0 hz1 hz2 hzs hsz _ l.length (l.flatMap enc) hown ⟨b, off, none⟩ m.length c (m.flatMap enc) hml hnews hone (by unfold maxLen; omega) hlen hbase
      have hg : Gr w w' := by
        subst hz1
        subst hz2
        have hown2 := hown.2
        rcases hown2 with ⟨hv, h0⟩ | ⟨g, cap, cur, hv, hbg, hg, hnc, hcm, hcs, htake⟩
        · injection hv with hv1 hv2 hv3
          subst hv1
          rw [hv2] at hr
          have hr2 := run_append_nil (P := P) w t ty e i0 z ht hi hz0 ⟨b, off, none⟩ m.length c (m.flatMap enc) hml hnews hpos (by omega) (by have := hlen; rw [h0] at this; simp only [Nat.zero_add] at this; omega)
          have e1 := hr.symm.trans hr2
          injection e1 with e2 e3
          subst e3
          exact (Gr.refl w).drew.alloc _
        · injection hv with hv1 hv2 hv3
          subst hv1
          have holds : ∀ j u, (l.flatMap enc)[j]? = some u → w.cell? ((⟨g, 0, none⟩ : Addr).add j) = some u := World.ownsRow.cells (show w.ownsRow base e i0.size _ l.length (l.flatMap enc) from hown) (g := g) rfl
          have hr2 := run_append_grow (P := P) w t ty e i0 z ht hi hz0 ⟨g, 0, none⟩ l.length l.length (l.flatMap enc) hown.1 holds ⟨b, off, none⟩ m.length c (m.flatMap enc) hml hnews (by omega) (by omega) (growslice_fits (by omega) hlen)
          have e1 := hr.symm.trans hr2
          injection e1 with e2 e3
          subst e3
          exact (Gr.refl w).drew.alloc _
      refine ⟨v', w', hr, ?_, hg⟩
      unfold OwnL
      rw [List.flatMap_append, List.length_append]
      exact h2
  · have hm0 : m = [] := List.eq_nil_of_length_eq_zero (by omega)
    subst hm0
    refine ⟨_, w, ?_, by rw [List.append_nil]; exact hown, Gr.refl w⟩
    cases p <;> cases q <;> simp [Builtin.append_, run_underlying ht, sizeOf, typeInfo, hi, Builtin.lenOf, Builtin.firstCells, loadCells, loadCellsFrom, storeCells]
theorem wp_appendF (s x : Operand) (t e : TypeId) (z : Value) (bytes : Nat) (ho : o.op = .call { callee := .builtin .append, args := #[s, x], argTypes := #[t, t] })
    (ht : P.underlying t = some (.slice e)) (hinfo : (P.info? e).map (fun i => (i.zero, i.size, i.bytes)) = some (some z, sz, bytes)) (hzs : z.cells.size = sz) (hsz : 0 < sz) (he : ∀ x, (enc x).length = sz) (h1 : ∀ x, ∀ u ∈ enc x, u.oneCell' = true)
    (base : Nat) (p : Option Addr) (vx : Value) (l m : List α) (hs : a.eval s = .slice p l.length l.length) (hown : OwnL w base e sz enc (.slice p l.length l.length) l) (hx : a.eval x = vx) (hm : SlL w sz enc vx m)
    (hlen : (l.length + m.length) * bytes ≤ 140737488355328) (hlen2 : l.length + m.length ≤ 1000000000000) (hbase : base ≤ w.heap.size)
    (h : ∀ v' w', OwnL w' base e sz enc v' (l ++ m) → Gr w w' → K (a.put o.dst v') w') : Oper.wp P o a w K Q := by
  obtain ⟨v', w', hr, h2, h3⟩ := append_fresh (ty := o.type) t e z bytes ht hinfo hzs hsz he h1 base p vx l m hown hm hlen hlen2 hbase
  unfold Oper.wp execOp
  simp only [ho, resolve, invoke, builtin, Sem.run_bind, Sem.run_pure, Result.andThen_ok, List.map_toArray, List.map_cons, List.map_nil, hs, hx, hr]
  exact h v' w' h2 h3
/-- append to a full row that is only read: a new block -/
theorem append_slF (t ty e : TypeId) (z : Value) (bytes : Nat) (ht : P.underlying t = some (.slice e)) (hinfo : (P.info? e).map (fun i => (i.zero, i.size, i.bytes)) = some (some z, sz, bytes)) (hzs : z.cells.size = sz) (hsz : 0 < sz) (he : ∀ x, (enc x).length = sz)
    (p : Option Addr) (vx : Value) (l m : List α) (hs : SlL w sz enc (.slice p l.length l.length) l) (hm : SlL w sz enc vx m) (hpos : 0 < m.length)
    (hlen : (l.length + m.length) * bytes ≤ 140737488355328) (hlen2 : l.length + m.length ≤ 1000000000000) :
    ∃ v' w', (Builtin.append_ #[t, t] ty #[.slice p l.length l.length, vx]).run P w = .ok v' w' ∧ OwnL w' w.heap.size e sz enc v' (l ++ m) ∧ Gr w w' ∧ v'.ownBlock = some w.heap.size := by
  obtain ⟨i0, hi, hz0, hz1, hz2⟩ := info_parts hinfo
  obtain ⟨hd, q, c, rfl, k1, k2, k3⟩ := hm
  rcases k3 with rfl | ⟨b, off, rfl, hc⟩
  · omega
  · have hnews : ∀ j u, (m.flatMap enc)[j]? = some u → w.cell? ((⟨b, off, none⟩ : Addr).add j) = some u := fun j u hu => by rw [addr_add0]; exact hc j u hu
    have hml := flat_len he m
    have hll := flat_len he l
    subst hz1
    subst hz2
    have fin : ∀ old, (w.drew.alloc (.cells ((l.flatMap enc).toArray ++ (m.flatMap enc).toArray ++ Builtin.zeroCells z.cells (grownCap w (l.length + m.length) old e - (l.length + m.length))) e)).ownsRow w.heap.size e i0.size
        (.slice (some ⟨w.heap.size, 0, none⟩) (l.length + m.length) (grownCap w (l.length + m.length) old e)) (l.length + m.length) (l.flatMap enc ++ m.flatMap enc) := fun old => by
      have hge := grownCap_ge w (l.length + m.length) old e
      have hcm : grownCap w (l.length + m.length) old e ≤ maxLen := grownCap_le_maxLen w (l.length + m.length) old e (by unfold maxLen; omega)
      have hlen : (l.flatMap enc ++ m.flatMap enc).length = (l.length + m.length) * i0.size := by rw [List.length_append, hll, hml, Nat.add_mul]
      refine ⟨hlen, .inr ⟨w.heap.size, _, _, rfl, Nat.le_refl _, heap_alloc_new w.drew _, hge, hcm, ?_, ?_⟩⟩
      · simp only [Array.size_append, List.size_toArray, size_zeroCells, hzs, hll, hml, ← Nat.add_mul]
        congr 1
        omega
      · simp only [Array.toList_append, List.append_assoc]
        rw [← List.append_assoc, ← hlen]
        exact List.take_left
    have own : ∀ W v, World.ownsRow W w.heap.size e i0.size v (l.length + m.length) (l.flatMap enc ++ m.flatMap enc) → OwnL W w.heap.size e i0.size enc v (l ++ m) := fun W v h => by
      unfold OwnL
      rw [List.flatMap_append, List.length_append]
      exact h
    obtain ⟨hd2, q2, c2, hv, j1, j2, j3⟩ := hs
    injection hv with hv1 hv2 hv3
    subst hv1
    cases p with
    | none =>
      have hl0 : l = [] := by
        rcases j3 with j3 | ⟨b, o, h, _⟩
        · exact List.eq_nil_of_length_eq_zero (by omega)
        · cases h
      subst hl0
      have hr := run_append_nil (P := P) w t ty e i0 z ht hi hz0 ⟨b, off, none⟩ m.length c (m.flatMap enc) hml hnews hpos (by omega) (by have := hlen; simp only [List.length_nil, Nat.zero_add] at this; omega)
      refine ⟨_, _, hr, own _ _ ?_, (Gr.refl w).drew.alloc _, rfl⟩
      have := fin 0
      simpa using this
    | some a =>
      have holds : ∀ j u, (l.flatMap enc)[j]? = some u → w.cell? (a.add j) = some u := by
        rcases j3 with j3 | ⟨b, o, h, hc⟩
        · have hl0 : l = [] := List.eq_nil_of_length_eq_zero (by omega)
          subst hl0
          intro j u hu
          simp at hu
        · injection h with h
          subst h
          intro j u hu
          rw [addr_add0]
          exact hc j u hu
      have hr := run_append_grow (P := P) w t ty e i0 z ht hi hz0 a l.length l.length (l.flatMap enc) hll holds ⟨b, off, none⟩ m.length c (m.flatMap enc) hml hnews (by omega) (by omega) (growslice_fits (by omega) hlen)
      exact ⟨_, _, hr, own _ _ (fin _), (Gr.refl w).drew.alloc _, rfl⟩
theorem wp_appendS (s x : Operand) (t e : TypeId) (z : Value) (bytes : Nat) (ho : o.op = .call { callee := .builtin .append, args := #[s, x], argTypes := #[t, t] })
    (ht : P.underlying t = some (.slice e)) (hinfo : (P.info? e).map (fun i => (i.zero, i.size, i.bytes)) = some (some z, sz, bytes)) (hzs : z.cells.size = sz) (hsz : 0 < sz) (he : ∀ x, (enc x).length = sz)
    (p : Option Addr) (vx : Value) (l m : List α) (hs : a.eval s = .slice p l.length l.length) (hown : SlL w sz enc (.slice p l.length l.length) l) (hx : a.eval x = vx) (hm : SlL w sz enc vx m) (hpos : 0 < m.length)
    (hlen : (l.length + m.length) * bytes ≤ 140737488355328) (hlen2 : l.length + m.length ≤ 1000000000000)
    (h : ∀ v' w', OwnL w' w.heap.size e sz enc v' (l ++ m) → Gr w w' → v'.ownBlock = some w.heap.size → K (a.put o.dst v') w') : Oper.wp P o a w K Q := by
  obtain ⟨v', w', hr, h2, h3, h4⟩ := append_slF (ty := o.type) t e z bytes ht hinfo hzs hsz he p vx l m hown hm hpos hlen hlen2
  unfold Oper.wp execOp
  simp only [ho, resolve, invoke, builtin, Sem.run_bind, Sem.run_pure, Result.andThen_ok, List.map_toArray, List.map_cons, List.map_nil, hs, hx, hr]
  exact h v' w' h2 h3 h4
/-- append of nothing -/
theorem wp_append0 (s x : Operand) (t e : TypeId) (z : Value) (bytes : Nat) (ho : o.op = .call { callee := .builtin .append, args := #[s, x], argTypes := #[t, t] })
    (ht : P.underlying t = some (.slice e)) (hinfo : (P.info? e).map (fun i => (i.zero, i.size, i.bytes)) = some (some z, sz, bytes))
    (p q : Option Addr) (n c d : Nat) (hs : a.eval s = .slice p n c) (hn : n ≤ c) (hp : p ≠ none ∨ c = 0) (hx : a.eval x = .slice q 0 d)
    (h : K (a.put o.dst (.slice p n c)) w) : Oper.wp P o a w K Q := by
  obtain ⟨i0, hi, hz0, hz1, hz2⟩ := info_parts hinfo
  have hr : (Builtin.append_ #[t, t] o.type #[.slice p n c, .slice q 0 d]).run P w = .ok (.slice p n c) w := by
    cases p with
    | none =>
      have hc : c = 0 := hp.resolve_left (fun h => h rfl)
      have hn0 : n = 0 := by omega
      subst hc hn0
      cases q <;> simp [Builtin.append_, run_underlying ht, sizeOf, typeInfo, hi, Builtin.lenOf, Builtin.firstCells, loadCells, loadCellsFrom]
    | some p => cases q <;> simp [Builtin.append_, run_underlying ht, sizeOf, typeInfo, hi, Builtin.lenOf, Builtin.firstCells, loadCells, loadCellsFrom, hn, storeCells]
  unfold Oper.wp execOp
  simp only [ho, resolve, invoke, builtin, Sem.run_bind, Sem.run_pure, Result.andThen_ok, List.map_toArray, List.map_cons, List.map_nil, hs, hx, hr]
  exact h
end append
end Go.Proofs.YtdekicijinmakaaGreatDoor
namespace Go.Proofs.YtdekicijinmakaaGreatDoor
open Go.RowKit Go.Lib Lex
set_option linter.unusedVariables false
set_option linter.unusedSimpArgs false

def exM23 (q : Option Addr) : Mdl := { exM q with feeds := [[102], [103]], racks := [⟨[114], 1, 1⟩, ⟨[115], 2, 2⟩], machs := [⟨[109, 49], 1, 10⟩, ⟨[109, 50], 1, 5⟩, ⟨[109, 51], 2, 10⟩] }
theorem encRack_one : ∀ x, ∀ u ∈ encRack x, u.oneCell' = true := fun x u hu => by
  unfold encRack at hu
  simp only [List.mem_cons, List.not_mem_nil, or_false] at hu
  rcases hu with rfl | rfl | rfl <;> rfl
theorem encMach_one : ∀ x, ∀ u ∈ encMach x, u.oneCell' = true := fun x u hu => by
  unfold encMach at hu
  simp only [List.mem_cons, List.not_mem_nil, or_false] at hu
  rcases hu with rfl | rfl | rfl <;> rfl
theorem rack_info : (Tryz.prog.info? 62).map (fun i => (i.zero, i.size, i.bytes)) = some (some (.agg #[.string ⟨#[]⟩, .int .i64 0, .int .i64 0]), 3, 32) := by kernel_rfl
theorem mach_info : (Tryz.prog.info? 64).map (fun i => (i.zero, i.size, i.bytes)) = some (some (.agg #[.string ⟨#[]⟩, .int .i64 0, .int .i64 0]), 3, 32) := by kernel_rfl
set_option maxRecDepth 100000 in
set_option maxHeartbeats 1600000 in
theorem law23_Example (w : World) :
    Calls Tryz.prog 41 #[] w (Ret w fun r w' => ∃ P q, r = .agg (mcells P (exM23 q)) ∧ MdlAt w' P (exM23 q)) := by
  go_enter Tryz.func41, Tryz.ntmps41
  go_wp2_with fail
  have b0 := Cells.new w #[.slice none 0 0, .slice none 0 0, .slice none 0 0, .slice none 0 0, .slice none 0 0, .slice none 0 0, .int .i64 0, .int .i64 0, .int .i64 0, .int .i64 0, .slice none 0 0] 29
  generalize w.alloc _ = W0 at b0 ⊢
  generalize hb0 : w.heap.size = r0 at b0 ⊢
  have HB0 := Lib.hid (show ¬ r0 < w.heap.size by omega)
  clear hb0
  have T0 := Lib.hid b0.2
  have G := Lib.hid b0.1
  clear b0
  refine (law15_ExampleOff W0).mono ?_
  rintro _ W ⟨_, rfl, g1, P, q, rfl, hm, hoff⟩
  have HO := Lib.hid (hoff r0 T0.out.lt)
  have HM := Lib.hid hm
  have G := Lib.hid (G.out.trans g1)
  have T0 := Lib.hid (T0.out.grow g1)
  clear g1
  clear hm hoff
  obtain ⟨p0, c0, p1, c1, p2, c2, p3, c3, p4, c4, p5, c5, p6, c6⟩ := P
  obtain ⟨br, or, xr, hp2, hx, hrc⟩ := rack_at (n := 1) (k := 0) HM.out.racks rfl (by decide)
  obtain rfl : xr = ⟨[114], 1, 1⟩ := (Option.some.inj hx).symm
  dsimp only at hp2
  subst hp2
  obtain ⟨W1, h1⟩ : ∃ x, W.alloc (.cells #[.slice p0 2 c0, .slice p1 1 c1, .slice (some ⟨br, or, none⟩) 1 c2, .slice p3 2 c3, .slice p4 1 c4, .slice p5 1 c5, .int .i64 1, .int .i64 1, .int .i64 0, .int .i64 0, .slice p6 0 c6] 29) = x := ⟨_, rfl⟩
  have b1 := Cells.new W #[.slice p0 2 c0, .slice p1 1 c1, .slice (some ⟨br, or, none⟩) 1 c2, .slice p3 2 c3, .slice p4 1 c4, .slice p5 1 c5, .int .i64 1, .int .i64 1, .int .i64 0, .int .i64 0, .slice p6 0 c6] 29
  rw [h1] at b1
  obtain ⟨W2, h2⟩ : ∃ x, W1.alloc (.cells #[.string ⟨#[102]⟩, .string ⟨#[103]⟩] 9) = x := ⟨_, rfl⟩
  have b2 := SlL.new W1 9 encS_len [[102], [103]] #[.string ⟨#[102]⟩, .string ⟨#[103]⟩] 2 rfl rfl (by decide)
  rw [h2] at b2
  obtain ⟨bm, hbm⟩ : ∃ n, W.heap.size = n := ⟨_, rfl⟩
  obtain ⟨bf, hbf⟩ : ∃ n, W1.heap.size = n := ⟨_, rfl⟩
  rw [hbm] at b1
  rw [hbf] at b2
  have T2 := b1.2.grow b2.1
  have d1 := T2.at 1 rfl
  have f1 := Cells.f T2 1
  obtain ⟨W3, h3⟩ : ∃ x, W2.setCell ⟨bm, 1, none⟩ (.slice (some ⟨bf, 0, none⟩) 2 2) = x := ⟨_, rfl⟩
  have T3 := T2.set 1 (.slice (some ⟨bf, 0, none⟩) 2 2)
  rw [h3] at T3
  have g3 : Gr W W3 := by rw [← h3]; exact (b1.1.trans b2.1).set (by omega) _
  obtain ⟨W4, h4⟩ : ∃ x, W3.alloc (.cells #[] 62) = x := ⟨_, rfl⟩
  obtain ⟨be, hbe⟩ : ∃ n, W3.heap.size = n := ⟨_, rfl⟩
  have o4 := OwnL.made0 (sz := 3) (enc := encRack) W3 W3.heap.size 62 (Nat.le_refl _)
  have g4 : Gr W3 W4 := by rw [← h4]; exact (Gr.refl _).alloc _
  rw [h4, hbe] at o4
  have T4 := T3.grow g4
  have d2 := T4.at 2 rfl
  obtain ⟨r0', r1', r2'⟩ := hrc _ (g3.trans g4)
  have b5 := SlL.new W4 62 encRack_len [⟨[114], 1, 1⟩, ⟨[115], 2, 2⟩] #[.string ⟨#[114]⟩, .int .i64 1, .int .i64 1, .string ⟨#[115]⟩, .int .i64 2, .int .i64 2] 2 rfl rfl (by decide)
  obtain ⟨W5, h5⟩ : ∃ x, W4.alloc (.cells #[.string ⟨#[114]⟩, .int .i64 1, .int .i64 1, .string ⟨#[115]⟩, .int .i64 2, .int .i64 2] 62) = x := ⟨_, rfl⟩
  obtain ⟨bk, hbk⟩ : ∃ n, W4.heap.size = n := ⟨_, rfl⟩
  rw [h5, hbk] at b5
  rw [Nat.zero_mul, Nat.add_zero] at r0' r1' r2'
  unfold mcells exM exM0
  go_wp2_with (at_builtin; refine Hold.hold ?_)
  have g5 := b5.1
  have g35 := g4.trans g5
  have S3 : SlL W3 1 encS (.slice (some ⟨bf, 0, none⟩) 2 2) [[102], [103]] := by
    have := SlL.upd b2.2 (upd_set W2 bm 1 (.slice (some ⟨bf, 0, none⟩) 2 2)) (Off.at (by have := b1.2.lt; omega))
    rw [h3] at this
    exact this
  have o5 := o4.grow g5
  have hlt1 := b1.2.lt
  have HBF := Lib.hid (show bf ≠ bm by omega)
  have HBF1 := Lib.hid (show W.heap.size ≤ bf by have := b1.1.size; omega)
  have hs3 : W2.heap.size = W3.heap.size := by rw [← h3]; simp [World.setCell]
  have hlt3 : bm < W3.heap.size := by have := b2.1.size; omega
  have HLT := Lib.hid (show ¬ bm < W.heap.size by omega)
  clear d1 f1 d2 r0' r1' r2' T2 T4 b1 b2 h1 h2 h3 h4 h5 g4 o4 hs3 hlt1
  refine Hold.go ?_
  refine wpList_appendL rfl _ _ 23 62 _ 32 rfl Tryz.underlying23 rack_info rfl (by decide) encRack_len encRack_one be (.slice (some ⟨be, 0, none⟩) 0 0) (.slice (some ⟨bk, 0, none⟩) 2 2) [] [⟨[114], 1, 1⟩, ⟨[115], 2, 2⟩] rfl o5 rfl b5.2 (by decide) (by decide) (by have := g35.size; omega) ?_
  intro v6 W6 ho6 k6
  have o5b : OwnL W5 W3.heap.size 62 3 encRack (.slice (some ⟨be, 0, none⟩) 0 0) [] := by rw [hbe]; exact o5
  have g36 := o5b.gr g35 k6
  have S6 := S3.grow g36
  have T6 := T3.grow g36
  obtain ⟨p2, c2', rfl, _, _⟩ := ho6.read.parts
  have d2 := T6.at 2 rfl
  have f2 := Cells.f T6 2
  obtain ⟨W7, h7⟩ : ∃ x, W6.setCell ⟨bm, 2, none⟩ (.slice p2 2 c2') = x := ⟨_, rfl⟩
  go_wp2_with fail
  have hoff2 : Off p2 bm := fun a e => by
    subst e
    intro h
    have := (ho6.lt a.block rfl).1
    omega
  have S7 : SlL W7 1 encS (.slice (some ⟨bf, 0, none⟩) 2 2) [[102], [103]] := by
    have := SlL.upd S6 (upd_set W6 bm 2 (.slice p2 2 c2')) (Off.at HBF.out)
    rw [h7] at this
    exact this
  have R7 : SlL W7 3 encRack (.slice p2 2 c2') [⟨[114], 1, 1⟩, ⟨[115], 2, 2⟩] := by
    have := SlL.upd ho6.read (upd_set W6 bm 2 (.slice p2 2 c2')) hoff2
    rw [h7] at this
    exact this
  have T7 := T6.set 2 (.slice p2 2 c2')
  rw [h7] at T7
  have g7 : Gr W W7 := by rw [← h7]; exact (g3.trans g36).set HLT.out _
  have hsz7 : W6.heap.size = W7.heap.size := by rw [← h7]; simp [World.setCell]
  have HOFF2 := Lib.hid hoff2
  have hlt7 : bm < W7.heap.size := by have := g36.size; omega
  have HBM := Lib.hid hlt7
  have HRP := Lib.hid (show Off p2 r0 from fun a e => by
    subst e
    intro h
    have := (ho6.lt a.block rfl).1
    have := T0.out.lt
    have := HLT.out
    omega)
  have HBF2 := Lib.hid (show bf ≠ r0 by have := T0.out.lt; have := HBF1.out; omega)
  obtain ⟨bq, oq, xa, hp3, hxa, hra⟩ := mach_at (n := 2) (k := 0) HM.out.machs rfl (by decide)
  obtain rfl : xa = ⟨[109, 49], 1, 10⟩ := (Option.some.inj hxa).symm
  obtain ⟨bq', oq', xb, hp3', hxb, hrb⟩ := mach_at (n := 2) (k := 1) HM.out.machs rfl (by decide)
  obtain rfl : xb = ⟨[109, 50], 1, 5⟩ := (Option.some.inj hxb).symm
  dsimp only at hp3
  subst hp3
  have hp3' := Option.some.inj hp3'
  injection hp3' with e1 e2 _
  subst e1 e2
  have a0 : ∀ w', Gr W7 w' → _ := fun w' g => (hra w' (g7.trans g)).1
  have a1 : ∀ w', Gr W7 w' → _ := fun w' g => (hra w' (g7.trans g)).2.1
  have a2 : ∀ w', Gr W7 w' → _ := fun w' g => (hra w' (g7.trans g)).2.2
  have a3 : ∀ w', Gr W7 w' → _ := fun w' g => (hrb w' (g7.trans g)).1
  have a4 : ∀ w', Gr W7 w' → _ := fun w' g => (hrb w' (g7.trans g)).2.1
  have a5 : ∀ w', Gr W7 w' → _ := fun w' g => (hrb w' (g7.trans g)).2.2
  simp only [Nat.zero_mul, Nat.add_zero, Nat.one_mul] at a0 a1 a2 a3 a4 a5
  have T7 := Lib.hid (show Cells W7 bm #[.slice p0 2 c0, .slice (some ⟨bf, 0, none⟩) 2 2, .slice p2 2 c2', .slice (some ⟨bq, oq, none⟩) 2 c3, .slice p4 1 c4, .slice p5 1 c5, .int .i64 1, .int .i64 1, .int .i64 0, .int .i64 0, .slice p6 0 c6] from by simpa using T7)
  have t3 := T7.out.c 3 rfl
  have S7 := Lib.hid S7
  have R7 := Lib.hid R7
  have G7 := Lib.hid g7
  clear T3 T6 hp3' hxa hxb hra hrb ho6 S6 k6 g36 g35 g3 hoff2 S3 hlt3 hsz7 h7 d2 f2 hrc hx o5 o5b
  have g0 : Gr W7 W7.drew := (Gr.refl _).drew
  refine wp_region_tree (.read 1 (.read 2 (.read 3 (.read 4 (.read 5 (.read 6 (.read 7 (.read 8 (.read 9 (.two 0 (.one 10 (.one 11 (.read 12 (.one 13 .stop)))) 10 (.one 0 (.one 11 (.read 12 (.one 13 .stop)))))))))))))) (by kernel_rfl) (by kernel_rfl) rfl (by kernel_rfl) (fun _ _ d _ _ h => by cases d <;> exact h) ?_
  repeat (refine wpT_readB (v := ?_) g0 rfl rfl (fun w' hg => ?_) (fun K hK => ?_); rotate_left; (go_simp; rfl); go_simp; refine hK _ _ ?_; clear hK K)
  generalize W7.drew = W7' at g0 ⊢
  have HP2 := Lib.hid (show Off p2 bm from HOFF2.out)
  refine wpT_two ?_ ?_
  · refine wpT_val (v := ?_) (w' := ?_) rfl rfl ?_ ?_ (fun K hK => ?_)
    rotate_left 2
    · go_simp; first | rfl | (constructor <;> rfl)
    · exact (Gr.refl _).alloc _
    go_simp
    refine hK _ _ ?_
    clear hK K
    have o8 := OwnL.made0 (sz := 3) (enc := encMach) W7' W7.heap.size 64 g0.size
    have g8 : Gr W7' (W7'.alloc (.cells #[] 64)) := (Gr.refl _).alloc _
    generalize W7'.heap.size = be2 at o8 ⊢
    generalize W7'.alloc _ = W8 at o8 g8 ⊢
    refine wpT_val (v := ?_) (w' := ?_) rfl rfl ?_ ?_ (fun K hK => ?_)
    rotate_left 2
    · go_simp; first | rfl | (constructor <;> rfl)
    · exact (Gr.refl _).alloc _
    go_simp
    refine hK _ _ ?_
    clear hK K
    have s9 := SlL.new W8 64 encMach_len [⟨[109, 49], 1, 10⟩, ⟨[109, 50], 1, 5⟩, ⟨[109, 51], 2, 10⟩] #[.string ⟨#[109, 49]⟩, .int .i64 1, .int .i64 10, .string ⟨#[109, 50]⟩, .int .i64 1, .int .i64 5, .string ⟨#[109, 51]⟩, .int .i64 2, .int .i64 10] 3 rfl rfl (by decide)
    have g79 := (g0.trans g8).trans s9.1
    have o9 := o8.grow s9.1
    have s9 := s9.2
    generalize W8.heap.size = bk2 at s9 ⊢
    generalize W8.alloc _ = W9 at s9 g79 o9 ⊢
    refine wpT_do rfl rfl (fun K hK => ?_)
    refine wp_appendF _ _ 24 64 _ 32 rfl Tryz.underlying24 mach_info rfl (by decide) encMach_len encMach_one W7.heap.size (some ⟨be2, 0, none⟩) _ [] [⟨[109, 49], 1, 10⟩, ⟨[109, 50], 1, 5⟩, ⟨[109, 51], 2, 10⟩] rfl o9 rfl s9 (by decide) (by decide) g79.size ?_
    intro v10 W10 ho10 g910
    refine ⟨fun _ => g910, hK _ _ ?_⟩
    clear hK K
    have g710 := g79.trans g910
    have ho10 : OwnL W10 W7.heap.size 64 3 encMach v10 [⟨[109, 49], 1, 10⟩, ⟨[109, 50], 1, 5⟩, ⟨[109, 51], 2, 10⟩] := ho10
    obtain ⟨p3', c3', rfl, _, _⟩ := ho10.read.parts
    have g11 := Gr.refl W10
    repeat (refine wpT_readB (v := ?_) g11 rfl rfl (fun w' hg => ?_) (fun K hK => ?_); rotate_left; (go_simp; rfl); go_simp; refine hK _ _ ?_; clear hK K)
    have d3 := (T7.out.grow g710).at 3 rfl
    have f3 := Cells.f (T7.out.grow g710) 3
    refine wpT_do rfl rfl (fun K hK => ?_)
    go_simp
    refine ⟨fun h => Bool.noConfusion h, hK _ _ ?_⟩
    clear hK K
    have hoff3 : Off p3' bm := fun a e => by
      subst e
      intro h
      have := (ho10.lt a.block rfl).1
      have := HBM.out
      omega
    have hoff3r : Off p3' r0 := fun a e => by
      subst e
      intro h
      have := (ho10.lt a.block rfl).1
      have := G7.out.size
      have := T0.out.lt
      omega
    have hu := upd_set W10 bm 3 (.slice p3' 3 c3')
    have hS := SlL.upd (S7.out.grow g710) hu (Off.at HBF.out)
    have hR := SlL.upd (R7.out.grow g710) hu HP2.out
    have hQ := SlL.upd ho10.read hu hoff3
    have hT := (T7.out.grow g710).set 3 (.slice p3' 3 c3')
    have hG := (G7.out.trans g710).set HLT.out (i := 3) (.slice p3' 3 c3')
    clear d3 f3 hu hoff3 ho10 g11 o9 s9 g79 g710 g910
    generalize W10.setCell _ _ = W11 at hS hR hQ hT hG ⊢
    refine wpT_stop ?_
    have HM11 := HM.out.grow hG
    have hmv : MdlAt W11 ⟨p0, c0, some ⟨bf, 0, none⟩, 2, p2, c2', p3', c3', p4, c4, p5, c5, p6, c6⟩ (exM23 q) :=
      ⟨HM11.sites, hS, hR, hQ, HM11.links, HM11.items, HM11.rules, HM11.ons, HM11.mss, by unfold exM23 exM exM0; simp, HM11.onb, HM11.msb⟩
    have T11 : Cells W11 bm #[.slice p0 2 c0, .slice (some ⟨bf, 0, none⟩) 2 2, .slice p2 2 c2', .slice p3' 3 c3', .slice p4 1 c4, .slice p5 1 c5, .int .i64 1, .int .i64 1, .int .i64 0, .int .i64 0, .slice p6 0 c6] := by simpa using hT
    have R11 := T0.out.grow hG
    have HMV := Lib.hid hmv
    have HG := Lib.hid (G.out.trans hG)
    have HR11 := Lib.hid R11
    have HOFF := Lib.hid hoff3r
    clear hS hR hQ hT hG HM11 hmv hoff3r a0 a1 a2 a3 a4 a5 t3 g0 T7 S7 R7
    have d0 := (T11).at 0 rfl
    have d1 := (T11).at 1 rfl
    have d2 := (T11).at 2 rfl
    have d3 := (T11).at 3 rfl
    have d4 := (T11).at 4 rfl
    have d5 := (T11).at 5 rfl
    have d6 := (T11).at 6 rfl
    have d7 := (T11).at 7 rfl
    have d8 := (T11).at 8 rfl
    have d9 := (T11).at 9 rfl
    have d10 := (T11).at 10 rfl
    have y0 := (R11).at 0 rfl
    have y1 := (R11).at 1 rfl
    have y2 := (R11).at 2 rfl
    have y3 := (R11).at 3 rfl
    have y4 := (R11).at 4 rfl
    have y5 := (R11).at 5 rfl
    have y6 := (R11).at 6 rfl
    have y7 := (R11).at 7 rfl
    have y8 := (R11).at 8 rfl
    have y9 := (R11).at 9 rfl
    have y10 := (R11).at 10 rfl
    have f0 := Cells.f R11 0
    have f1 := Cells.f R11 1
    have f2 := Cells.f R11 2
    have f3 := Cells.f R11 3
    have f4 := Cells.f R11 4
    have f5 := Cells.f R11 5
    have f6 := Cells.f R11 6
    have f7 := Cells.f R11 7
    have f8 := Cells.f R11 8
    have f9 := Cells.f R11 9
    have f10 := Cells.f R11 10
    clear T11 R11
    go_wp2_with fail
    clear d0 d1 d2 d3 d4 d5 d6 d7 d8 d9 d10
    clear y0 y1 y2 y3 y4 y5 y6 y7 y8 y9 y10
    clear f0 f1 f2 f3 f4 f5 f6 f7 f8 f9 f10
    obtain ⟨g, T, u⟩ := fill11 (.slice p0 2 c0) (.slice (some ⟨bf, 0, none⟩) 2 2) (.slice p2 2 c2') (.slice p3' 3 c3') (.slice p4 1 c4) (.slice p5 1 c5) (.int .i64 1) (.int .i64 1) (.int .i64 0) (.int .i64 0) (.slice p6 0 c6) HR11.out HG.out HB0.out
    have hmf := HMV.out.upd u HO.out.1 (Off.at HBF2.out) HRP.out HOFF.out HO.out.2.2.2.2.1 HO.out.2.2.2.2.2.1 HO.out.2.2.2.2.2.2.1 (fun x hx => by
        obtain rfl : x = _ := List.mem_singleton.1 hx
        exact HO.out.2.2.2.2.2.2.2) (fun x hx => (by cases hx))
    generalize ((((((((((W11.setCell _ _).setCell _ _).setCell _ _).setCell _ _).setCell _ _).setCell _ _).setCell _ _).setCell _ _).setCell _ _).setCell _ _).setCell _ _ = V' at T g hmf ⊢
    have y0 := (T).at 0 rfl
    have y1 := (T).at 1 rfl
    have y2 := (T).at 2 rfl
    have y3 := (T).at 3 rfl
    have y4 := (T).at 4 rfl
    have y5 := (T).at 5 rfl
    have y6 := (T).at 6 rfl
    have y7 := (T).at 7 rfl
    have y8 := (T).at 8 rfl
    have y9 := (T).at 9 rfl
    have y10 := (T).at 10 rfl
    refine bodyPost_ret (by simp [results, Tryz.results41, go_sem, y0, y1, y2, y3, y4, y5, y6, y7, y8, y9, y10]; rfl) rfl ?_
    exact ⟨_, rfl, g, _, q, rfl, hmf⟩
  · refine wpT_val (v := ?_) (w' := ?_) rfl rfl ?_ ?_ (fun K hK => ?_)
    rotate_left 2
    · go_simp; first | rfl | (constructor <;> rfl)
    · exact (Gr.refl _).alloc _
    go_simp
    refine hK _ _ ?_
    clear hK K
    have s8 := SlL.new W7' 64 encMach_len [⟨[109, 49], 1, 10⟩, ⟨[109, 50], 1, 5⟩, ⟨[109, 51], 2, 10⟩] #[.string ⟨#[109, 49]⟩, .int .i64 1, .int .i64 10, .string ⟨#[109, 50]⟩, .int .i64 1, .int .i64 5, .string ⟨#[109, 51]⟩, .int .i64 2, .int .i64 10] 3 rfl rfl (by decide)
    have g8 := s8.1
    have s8 := s8.2
    generalize W7'.heap.size = bk2 at s8 ⊢
    generalize W7'.alloc _ = W8 at s8 g8 ⊢
    refine wpT_val (v := ?_) (w' := ?_) rfl rfl ?_ ?_ (fun K hK => ?_)
    rotate_left 2
    · go_simp; first | rfl | (constructor <;> rfl)
    · exact (Gr.refl _).alloc _
    go_simp
    refine hK _ _ ?_
    clear hK K
    have o9 := OwnL.made0 (sz := 3) (enc := encMach) W8 W7.heap.size 64 (g0.trans g8).size
    have g9 : Gr W8 (W8.alloc (.cells #[] 64)) := (Gr.refl _).alloc _
    have s9 := SlL.grow s8 g9
    have g79 := (g0.trans g8).trans g9
    generalize W8.heap.size = be2 at o9 ⊢
    generalize W8.alloc _ = W9 at s9 g79 o9 ⊢
    refine wpT_do rfl rfl (fun K hK => ?_)
    refine wp_appendF _ _ 24 64 _ 32 rfl Tryz.underlying24 mach_info rfl (by decide) encMach_len encMach_one W7.heap.size (some ⟨be2, 0, none⟩) _ [] [⟨[109, 49], 1, 10⟩, ⟨[109, 50], 1, 5⟩, ⟨[109, 51], 2, 10⟩] rfl o9 rfl s9 (by decide) (by decide) g79.size ?_
    intro v10 W10 ho10 g910
    refine ⟨fun _ => g910, hK _ _ ?_⟩
    clear hK K
    have g710 := g79.trans g910
    have ho10 : OwnL W10 W7.heap.size 64 3 encMach v10 [⟨[109, 49], 1, 10⟩, ⟨[109, 50], 1, 5⟩, ⟨[109, 51], 2, 10⟩] := ho10
    obtain ⟨p3', c3', rfl, _, _⟩ := ho10.read.parts
    have g11 := Gr.refl W10
    repeat (refine wpT_readB (v := ?_) g11 rfl rfl (fun w' hg => ?_) (fun K hK => ?_); rotate_left; (go_simp; rfl); go_simp; refine hK _ _ ?_; clear hK K)
    have d3 := (T7.out.grow g710).at 3 rfl
    have f3 := Cells.f (T7.out.grow g710) 3
    refine wpT_do rfl rfl (fun K hK => ?_)
    go_simp
    refine ⟨fun h => Bool.noConfusion h, hK _ _ ?_⟩
    clear hK K
    have hoff3 : Off p3' bm := fun a e => by
      subst e
      intro h
      have := (ho10.lt a.block rfl).1
      have := HBM.out
      omega
    have hoff3r : Off p3' r0 := fun a e => by
      subst e
      intro h
      have := (ho10.lt a.block rfl).1
      have := G7.out.size
      have := T0.out.lt
      omega
    have hu := upd_set W10 bm 3 (.slice p3' 3 c3')
    have hS := SlL.upd (S7.out.grow g710) hu (Off.at HBF.out)
    have hR := SlL.upd (R7.out.grow g710) hu HP2.out
    have hQ := SlL.upd ho10.read hu hoff3
    have hT := (T7.out.grow g710).set 3 (.slice p3' 3 c3')
    have hG := (G7.out.trans g710).set HLT.out (i := 3) (.slice p3' 3 c3')
    clear d3 f3 hu hoff3 ho10 g11 o9 s9 g79 g710 g910
    generalize W10.setCell _ _ = W11 at hS hR hQ hT hG ⊢
    refine wpT_stop ?_
    have HM11 := HM.out.grow hG
    have hmv : MdlAt W11 ⟨p0, c0, some ⟨bf, 0, none⟩, 2, p2, c2', p3', c3', p4, c4, p5, c5, p6, c6⟩ (exM23 q) :=
      ⟨HM11.sites, hS, hR, hQ, HM11.links, HM11.items, HM11.rules, HM11.ons, HM11.mss, by unfold exM23 exM exM0; simp, HM11.onb, HM11.msb⟩
    have T11 : Cells W11 bm #[.slice p0 2 c0, .slice (some ⟨bf, 0, none⟩) 2 2, .slice p2 2 c2', .slice p3' 3 c3', .slice p4 1 c4, .slice p5 1 c5, .int .i64 1, .int .i64 1, .int .i64 0, .int .i64 0, .slice p6 0 c6] := by simpa using hT
    have R11 := T0.out.grow hG
    have HMV := Lib.hid hmv
    have HG := Lib.hid (G.out.trans hG)
    have HR11 := Lib.hid R11
    have HOFF := Lib.hid hoff3r
    clear hS hR hQ hT hG HM11 hmv hoff3r a0 a1 a2 a3 a4 a5 t3 g0 T7 S7 R7
    have d0 := (T11).at 0 rfl
    have d1 := (T11).at 1 rfl
    have d2 := (T11).at 2 rfl
    have d3 := (T11).at 3 rfl
    have d4 := (T11).at 4 rfl
    have d5 := (T11).at 5 rfl
    have d6 := (T11).at 6 rfl
    have d7 := (T11).at 7 rfl
    have d8 := (T11).at 8 rfl
    have d9 := (T11).at 9 rfl
    have d10 := (T11).at 10 rfl
    have y0 := (R11).at 0 rfl
    have y1 := (R11).at 1 rfl
    have y2 := (R11).at 2 rfl
    have y3 := (R11).at 3 rfl
    have y4 := (R11).at 4 rfl
    have y5 := (R11).at 5 rfl
    have y6 := (R11).at 6 rfl
    have y7 := (R11).at 7 rfl
    have y8 := (R11).at 8 rfl
    have y9 := (R11).at 9 rfl
    have y10 := (R11).at 10 rfl
    have f0 := Cells.f R11 0
    have f1 := Cells.f R11 1
    have f2 := Cells.f R11 2
    have f3 := Cells.f R11 3
    have f4 := Cells.f R11 4
    have f5 := Cells.f R11 5
    have f6 := Cells.f R11 6
    have f7 := Cells.f R11 7
    have f8 := Cells.f R11 8
    have f9 := Cells.f R11 9
    have f10 := Cells.f R11 10
    clear T11 R11
    go_wp2_with fail
    clear d0 d1 d2 d3 d4 d5 d6 d7 d8 d9 d10
    clear y0 y1 y2 y3 y4 y5 y6 y7 y8 y9 y10
    clear f0 f1 f2 f3 f4 f5 f6 f7 f8 f9 f10
    obtain ⟨g, T, u⟩ := fill11 (.slice p0 2 c0) (.slice (some ⟨bf, 0, none⟩) 2 2) (.slice p2 2 c2') (.slice p3' 3 c3') (.slice p4 1 c4) (.slice p5 1 c5) (.int .i64 1) (.int .i64 1) (.int .i64 0) (.int .i64 0) (.slice p6 0 c6) HR11.out HG.out HB0.out
    have hmf := HMV.out.upd u HO.out.1 (Off.at HBF2.out) HRP.out HOFF.out HO.out.2.2.2.2.1 HO.out.2.2.2.2.2.1 HO.out.2.2.2.2.2.2.1 (fun x hx => by
        obtain rfl : x = _ := List.mem_singleton.1 hx
        exact HO.out.2.2.2.2.2.2.2) (fun x hx => (by cases hx))
    generalize ((((((((((W11.setCell _ _).setCell _ _).setCell _ _).setCell _ _).setCell _ _).setCell _ _).setCell _ _).setCell _ _).setCell _ _).setCell _ _).setCell _ _ = V' at T g hmf ⊢
    have y0 := (T).at 0 rfl
    have y1 := (T).at 1 rfl
    have y2 := (T).at 2 rfl
    have y3 := (T).at 3 rfl
    have y4 := (T).at 4 rfl
    have y5 := (T).at 5 rfl
    have y6 := (T).at 6 rfl
    have y7 := (T).at 7 rfl
    have y8 := (T).at 8 rfl
    have y9 := (T).at 9 rfl
    have y10 := (T).at 10 rfl
    refine bodyPost_ret (by simp [results, Tryz.results41, go_sem, y0, y1, y2, y3, y4, y5, y6, y7, y8, y9, y10]; rfl) rfl ?_
    exact ⟨_, rfl, g, _, q, rfl, hmf⟩
end Go.Proofs.YtdekicijinmakaaGreatDoor

/- Texts: PsC. -/
import Derived.Test.YtcjgimlcefhhmaaGreatDoorW20
set_option linter.unusedVariables false
set_option linter.unusedSimpArgs false
set_option maxRecDepth 100000
set_option maxHeartbeats 12800000
namespace Go.Proofs.YtcjgimlcefhhmaaGreatDoor
namespace Prf
open Go.RowKit Go.Lib
def ξQ (w : World) (b : Nat) (s : Rat) : Prop := ∃ t : RatM, ξe w b (.bool t.n) (.slice t.p t.k t.c) (.slice t.q t.m t.e) ∧ RatC w t.v s
theorem ξQ.grow {w w' : World} {b : Nat} {s : Rat} (h : ξQ w b s) (g : Gr w w') : ξQ w' b s := by
 obtain ⟨t, h1, h2⟩ := h
 exact ⟨t, h1.grow g, h2.grow g⟩
theorem ξQ.upd {w w' : World} {b b' : Nat} {s : Rat} (h : ξQ w b s) (hb : ξ0f w b') (hu : Upd b' w w') (hne : b ≠ b') : ξQ w' b s := by
 obtain ⟨t, h1, h2⟩ := h
 exact ⟨t, h1.upd hu hne, h2.upd hb hu⟩
theorem ξQ.noInt {w : World} {b : Nat} {s : Rat} (h : ξQ w b s) : ξ0f w b := by
 obtain ⟨t, h1, h2⟩ := h
 exact h1.noInt
theorem ξQ.lt {w : World} {b : Nat} {s : Rat} (h : ξQ w b s) : b < w.heap.size := by
 obtain ⟨t, h1, h2⟩ := h
 exact h1.lt
theorem ξd.lt {w : World} {b n : Nat} {a : Nat → Rat} {L : Nat} (h : ξd w b n a L) : b < w.heap.size := by
 obtain ⟨T, h1, _⟩ := h
 exact h1.lt
theorem ξQ.put {w : World} {b : Nat} {s s' : Rat} {t : RatM} (h : ξQ w b s) (ht : RatC w t.v s') : ξQ (set3 w b (.bool t.n) (.slice t.p t.k t.c) (.slice t.q t.m t.e)) b s' := by
 have hn := h.noInt
 obtain ⟨u, h1, _⟩ := h
 exact ⟨t, h1.set _ _ _, ht.upd hn (upd3 w b _ _ _)⟩
theorem ξ3Z {w : World} {v : Value} {s : Rat} (h : RatC w v s) : ∃ t : RatM, v = t.v ∧ RatC w t.v s := by
 obtain ⟨n, p, k, c, q, m, e, rfl⟩ := RatC.agg h
 exact ⟨⟨n, p, k, c, q, m, e⟩, rfl, h⟩
structure ξ1F (w W : World) (bp b5 bo b7 : Nat) (u0 u1 : Value) (n : Nat) (a : Nat → Rat) (s : Rat) : Prop where
 g : Gr w W
 tp : ξ0 W bp #[u0, u1]
 t5 : ξe W b5 (.bool false) (.slice none 0 0) (.slice none 0 0)
 ro : ξd W bo n a 80
 t7 : ξQ W b7 s
theorem ξ1F.grow {w W W' : World} {bp b5 bo b7 : Nat} {u0 u1 : Value} {n : Nat} {a : Nat → Rat} {s : Rat} (h : ξ1F w W bp b5 bo b7 u0 u1 n a s) (g : Gr W W') : ξ1F w W' bp b5 bo b7 u0 u1 n a s :=
 ⟨h.g.trans g, h.tp.grow g, h.t5.grow g, h.ro.grow g, h.t7.grow g⟩
structure ξ9P (w : World) (bp b5 bo b7 : Nat) : Prop where
 o : w.heap.size ≤ bo
 b : w.heap.size ≤ b7
 po : bp ≠ bo
 p7 : bp ≠ b7
 o5 : b5 ≠ bo
 o57 : b5 ≠ b7
 o7 : b7 ≠ bo
 c : w.heap.size ≤ b5
theorem ξ2T {w W : World} (g : Gr w W) {b : Nat} (hb : w.heap.size ≤ b) (k : Nat) (t : RatM) : Gr w (setRat W b k t) := by
 unfold setRat
 exact Gr.set (Gr.set (Gr.set g (by omega) _) (by omega) _) (by omega) _
theorem ξ03 {w W : World} (g : Gr w W) {b : Nat} (hb : w.heap.size ≤ b) (x y z : Value) : Gr w (set3 W b x y z) := by
 unfold set3
 exact Gr.set (Gr.set (Gr.set g (by omega) _) (by omega) _) (by omega) _
theorem ξ1F.putO {w W : World} {bp b5 bo b7 : Nat} {u0 u1 : Value} {n : Nat} {a a' : Nat → Rat} {s : Rat} (h : ξ1F w W bp b5 bo b7 u0 u1 n a s) (hn : ξ9P w bp b5 bo b7) {k : Nat} (hk : k < n) {t : RatM} (ht : RatV W t.v (a' k) 80) (e : ∀ i, i < n → i ≠ k → a i = a' i) :
  ξ1F w (setRat W bo k t) bp b5 bo b7 u0 u1 n a' s :=
 have hu := ξ19 W bo k t
 have hni := h.ro.noInt
 ⟨ξ2T h.g hn.o k t, h.tp.upd hu hn.po, h.t5.upd hu hn.o5, h.ro.set hk ht e, h.t7.upd hni hu hn.o7⟩
theorem ξ1F.putB {w W : World} {bp b5 bo b7 : Nat} {u0 u1 : Value} {n : Nat} {a : Nat → Rat} {s s' : Rat} (h : ξ1F w W bp b5 bo b7 u0 u1 n a s) (hn : ξ9P w bp b5 bo b7) {t : RatM} (ht : RatC W t.v s') :
  ξ1F w (set3 W b7 (.bool t.n) (.slice t.p t.k t.c) (.slice t.q t.m t.e)) bp b5 bo b7 u0 u1 n a s' :=
 have hu := upd3 W b7 (.bool t.n) (.slice t.p t.k t.c) (.slice t.q t.m t.e)
 have hni := h.t7.noInt
 ⟨ξ03 h.g hn.b _ _ _, h.tp.upd hu hn.p7, h.t5.upd hu hn.o57, h.ro.upd hni hu hn.o7.symm, h.t7.put ht⟩
theorem ξ6A : (Tryz.prog.info? 68).map (fun i => (i.zero, i.size, i.bytes)) = some (some (.agg #[.bool false, .slice none 0 0, .slice none 0 0]), 3, 56) := by kernel_rfl
theorem ξaF (n : Nat) : madeCells (Value.agg #[.bool false, .slice none 0 0, .slice none 0 0]).cells (n * 3) = ((List.replicate n zeroRat).flatMap encRat).toArray := by
 apply Array.ext'
 refine List.ext_getElem? fun m => ?_
 by_cases hm : m < n * 3
 ·have h1 : m = m / 3 * 3 + m % 3 := by omega
  have h2 := ξ1n ξR (List.replicate n zeroRat) (m / 3) zeroRat (m % 3) (by rw [List.getElem?_replicate, if_pos (by omega)]) (by omega)
  rw [← h1] at h2
  rw [List.toList_toArray, h2]
  have h3 : m % 3 = 0 ∨ m % 3 = 1 ∨ m % 3 = 2 := by omega
  simp only [madeCells, Value.cells]
  rcases h3 with h | h | h <;> simp [h, hm, encRat, zeroRat, Value.cells]
 ·rw [List.getElem?_eq_none (by simp [madeCells]; omega), List.getElem?_eq_none (by simp [ξU ξR]; omega)]
section
variable {ops : Array Oper} {rest : List Oper} {o : Oper} {a : Act} {Q : Exit → Act → World → Prop} {w : World}
theorem ξ1M (hgd : o.guard = none) (x y : Operand) (t : TypeId) (ho : o.op = .makeSlice t x y) (ht : Tryz.prog.underlying t = some (.slice 68)) (n : Nat) (e : Int) (hx : a.eval x = .int .i64 e) (hy : a.eval y = .int .i64 e) (he : e = n)
  (hn : n ≤ 1000000) (h : ∀ w', ξd w' w.heap.size n (fun _ => 0) 80 → Gr w w' → wpList Tryz.prog ops Q rest (a.put o.dst (.slice (some ⟨w.heap.size, 0, none⟩) n n)) w') : wpList Tryz.prog ops Q (o :: rest) a w := by
 subst he
 obtain ⟨i0, hi, hz0, hz1, hz2⟩ := info_parts ξ6A
 refine wpList_plain hgd (fun K hK => ?_)
 have hr := run_make (P := Tryz.prog) w t 68 i0 (.agg #[.bool false, .slice none 0 0, .slice none 0 0]) ht hi hz0 .i64 .i64 n n (by omega) (by omega) (by rw [hz2]; omega) (by omega)
 unfold Oper.wp execOp
 simp only [ho, hx, hy, Sem.run_bind, Sem.run_pure, Result.andThen_ok, hr, Oper.upon, Int.toNat_natCast]
 refine hK _ _ (h _ ?_ ((Gr.refl w).alloc _))
 refine ξd.zero 80 ⟨_, heap_alloc_new w _⟩ ?_
 rw [hz1, ξaF]
end
theorem ξ8s {p : Prg} {y : List Rat} {i : Nat} {r : RowS} (h : p.rows[i]? = some r) (j : Nat) : sumQ (cA p y j) (i + 1) = sumQ (cA p y j) i + (rowCoef (r.terms.take r.terms.length) j : Rat) * atQ y i := by
 rw [ξ0Y, List.take_length]
 unfold cA
 simp only [h]
theorem ξ0M {l : List ξ8} {k : Nat} {t : ξ8} (h : l[k]? = some t) (j : Nat) : rowCoef (l.take (k + 1)) j = rowCoef (l.take k) j + if t.v = (j : Int) then t.c else 0 := by
 have hk := (List.getElem?_eq_some_iff.1 h).1
 rw [List.take_succ_eq_append_getElem hk]
 have e : l[k] = t := (List.getElem?_eq_some_iff.1 h).2
 rw [e]
 unfold rowCoef
 simp
structure ξ2x (w W : World) (bp b5 b7 : Nat) (u0 u1 : Value) (s : Rat) : Prop where
 g : Gr w W
 tp : ξ0 W bp #[u0, u1]
 t5 : ξe W b5 (.bool false) (.slice none 0 0) (.slice none 0 0)
 t7 : ξQ W b7 s
theorem ξ2x.grow {w W W' : World} {bp b5 b7 : Nat} {u0 u1 : Value} {s : Rat} (h : ξ2x w W bp b5 b7 u0 u1 s) (g : Gr W W') : ξ2x w W' bp b5 b7 u0 u1 s :=
 ⟨h.g.trans g, h.tp.grow g, h.t5.grow g, h.t7.grow g⟩
theorem ξ2x.putB {w W : World} {bp b5 b7 : Nat} {u0 u1 : Value} {s s' : Rat} (h : ξ2x w W bp b5 b7 u0 u1 s) (hn : w.heap.size ≤ b5 ∧ w.heap.size ≤ b7 ∧ bp ≠ b7 ∧ b5 ≠ b7) {t : RatM} (ht : RatC W t.v s') :
  ξ2x w (set3 W b7 (.bool t.n) (.slice t.p t.k t.c) (.slice t.q t.m t.e)) bp b5 b7 u0 u1 s' :=
 have hu := upd3 W b7 (.bool t.n) (.slice t.p t.k t.c) (.slice t.q t.m t.e)
 ⟨ξ03 h.g hn.2.1 _ _ _, h.tp.upd hu hn.2.2.1, h.t5.upd hu hn.2.2.2, h.t7.put ht⟩
end Prf
end Go.Proofs.YtcjgimlcefhhmaaGreatDoor

/- Texts: IntE IntF NumA NumB NumC. -/
import Derived.Lib.ItoaMem
import Derived.Lib.AppendIntMem
import Derived.Lib.LaidTab
import Derived.Lib.OwnBridge
import Derived.Lib.Repeat
import Derived.Lib.Join
import Derived.Laws.Concat
import Derived.Test.YtcjgimlcefhhmaaGreatDoorW4
import Derived.Test.YtcjgimlcefhhmaaGreatDoorW6
import Derived.Test.YtcjgimlcefhhmaaGreatDoorW8
set_option linter.unusedVariables false
set_option linter.unusedSimpArgs false
set_option maxRecDepth 100000
set_option maxHeartbeats 12800000
namespace Go.Proofs.YtcjgimlcefhhmaaGreatDoor
open Go.RowKit
theorem ξ12 {a : Nat} (h : a < 18446744073709551616) : (digs a).length ≤ 2 := by
 refine ξh ?_
 rw [ξ5]; omega
theorem ξ7q (w : World) (z : Int) (h1 : -9223372036854775808 ≤ z) (h2 : z ≤ 9223372036854775807) :
  Calls Tryz.prog 126 #[.int .i64 z] w (Ret w fun r w' => IntC w' r z) := by
 have HB1 := ξ (boxed1 w (.bool false) (.slice none 0 0) 66)
 by_cases hz : z < 0
 ·obtain ⟨a, ha⟩ : ∃ a : Nat, z = -(a : Int) := ⟨(-z).toNat, by omega⟩
  have ha2 : a ≤ 9223372036854775808 := by omega
  have ha0 : 0 < a := by omega
  have Ha := ξ ha
  clear ha
  go_enter Tryz.func126, Tryz.ntmps126
  go_wp2_with fail
  have hneg : IntKind.u64.wrap (-IntKind.u64.wrap z) = (a : Int) := by
   rw [IntKind.wrap_u64, IntKind.wrap_u64, Ha.out]; omega
  rw [hneg]
  refine (ξ0q _ a (by omega)).mono ?_
  rintro _ w1 ⟨r, rfl, g1, hr⟩
  have G1 := ξ g1
  have Hr := ξ hr
  clear hr g1 hneg
  go_wp2_with fail
  refine (ξ04 _ true r _ z Hr.out (Nat.le_trans (ξ12 (by omega)) (by omega)) (by rw [Ha.out]; simp)).mono ?_
  rintro _ w3 ⟨r3, rfl, g3, hr3⟩
  obtain ⟨p3, k3, c3, rfl, hr3⟩ := hr3
  obtain ⟨sg, hsg⟩ : ∃ sg, sg = decide (z < 0) := ⟨_, rfl⟩
  rw [← hsg]
  have Hsg := ξ hsg
  have G3 := ξ (G1.out.trans g3)
  have Hr3 := ξ hr3
  have HR3 := ξ (HB1.out.2.grow G3.out)
  have r0 := HR3.out.load.1
  have r1 := HR3.out.load.2
  have f0 := HR3.out.f0 0
  have f1 := HR3.out.f0 1
  clear g3 hr3 hsg
  go_wp2_with fail
  refine bodyPost_ret (v := .agg #[.bool sg, .slice p3 k3 c3]) (by simp [results, Tryz.results126, go_sem, r0, r1]) rfl ?_
  exact ξ1s (by omega) (HB1.out.1.trans G3.out) HR3.out Hr3.out Hsg.out
 ·obtain ⟨a, rfl⟩ : ∃ a : Nat, z = a := ⟨z.toNat, by omega⟩
  have ha2 : a ≤ 9223372036854775807 := by omega
  go_enter Tryz.func126, Tryz.ntmps126
  go_wp2_with fail
  refine (ξ0q _ a (by omega)).mono ?_
  rintro _ w1 ⟨r, rfl, g1, hr⟩
  have G1 := ξ g1
  have Hr := ξ hr
  clear hr g1
  go_wp2_with fail
  refine (ξ04 _ false r _ _ Hr.out (Nat.le_trans (ξ12 (by omega)) (by omega)) (by simp; rfl)).mono ?_
  rintro _ w3 ⟨r3, rfl, g3, hr3⟩
  obtain ⟨p3, k3, c3, rfl, hr3⟩ := hr3
  obtain ⟨sg, hsg⟩ : ∃ sg, sg = decide ((a : Int) < 0) := ⟨_, rfl⟩
  rw [← hsg]
  have Hsg := ξ hsg
  have G3 := ξ (G1.out.trans g3)
  have Hr3 := ξ hr3
  have HR3 := ξ (HB1.out.2.grow G3.out)
  have r0 := HR3.out.load.1
  have r1 := HR3.out.load.2
  have f0 := HR3.out.f0 0
  have f1 := HR3.out.f0 1
  clear g3 hr3 hsg
  go_wp2_with fail
  refine bodyPost_ret (v := .agg #[.bool sg, .slice p3 k3 c3]) (by simp [results, Tryz.results126, go_sem, r0, r1]) rfl ?_
  exact ξ1s (by omega) (HB1.out.1.trans G3.out) HR3.out Hr3.out Hsg.out
end Go.Proofs.YtcjgimlcefhhmaaGreatDoor
namespace Go.Proofs.YtcjgimlcefhhmaaGreatDoor
open Go.RowKit Go.Sort Go.Lib
def Tab (w : World) : Prop := Lib.TabIs Tryz.prog w "internal/strconv.uint64pow10" .u64 Lib.pow10Tab
theorem Tab.grow {w w' : World} (h : Tab w) (g : Gr w w') : Tab w' := tabBelow_of_tabIs h w' g
theorem holds0 (w : World) (T : TypeId) (nd : Nat) (hs : nd ≤ 24) : Holds (fun (b : UInt8) => Value.int .u8 (b.toNat : Int)) (w.alloc (.cells Lib.zeros24 T)) w.heap.size 0 (Array.replicate nd (0 : UInt8)) := fun j hj => by
 have hj' : j < nd := by simpa using hj
 refine ⟨?_, World.frozen?_alloc_new _ _ _ _⟩
 rw [World.cell?_alloc_new, Lib.zeros24_at _ (by omega), getElem!_pos _ j hj]
 simp
theorem ξca (w : World) (k : Nat) (os : Array Obj) : Gr w (grow (w.drewN k) os) := by
 refine ⟨rfl, rfl, rfl, ?_, fun i hi => ?_⟩
 ·simp [grow, World.drewN]
 ·simp [grow, World.drewN, Array.getElem?_append_left hi]
theorem ξ5z (w : World) (u : Nat) (hu : u < 18446744073709551616) (htab : Tab w) :
  Calls Tryz.prog 278 #[.int .u64 u, .int .i64 10] w (Ret w fun r _ => r = .string ⟨(Lib.decDigits u).toArray⟩) := by
 by_cases hs : u < 100
 ·go_enter Tryz.func278, Tryz.ntmps278
  go_wp2_with fail
  refine (Tryz.internal_strconv_small u hs _).mono ?_
  rintro _ _ ⟨rfl, rfl⟩
  go_wp2_with fail
  go_ret
  exact ⟨_, rfl, Gr.refl _, rfl⟩
 ·have hu1 : 1 ≤ u := by omega
  have hnd20 : Lib.nDigits u ≤ 20 := by have := Lib.numDigits_eq u hu1 hu; split at this <;> omega
  have hal : Tryz.prog.arrayLen 206 = 24 := by simp [Program.arrayLen, Tryz.underlying206]
  have hsl1 : ∀ W, (Instr.sliceAt 206 (.pointer (some ⟨w.heap.size, 0, none⟩)) none (some (.int .i64 (Lib.nDigits u : Int))) none).run Tryz.prog W = .ok (.slice (some ⟨w.heap.size, 0, none⟩) (Lib.nDigits u) 24) W := fun W => by
   rw [run_sliceAt_array_h W 206 ⟨w.heap.size, 0, none⟩ (by simp [Program.arrayLen, Program.elem, Tryz.underlying206]) .i64 (Lib.nDigits u : Int) (by omega) (by rw [hal]; omega)]
   go_simp
  have hH0 := holds0 w 206 (Lib.nDigits u) (by omega)
  have hfmt := Tryz.internal_strconv_formatBase10 w.heap.size 0 24 u (Array.replicate (Lib.nDigits u) 0) (w.alloc (.cells Lib.zeros24 206)) hH0 (by rw [Array.size_replicate]; exact Lib.lt_pow_nDigits u) hu (by rw [Array.size_replicate]; omega)
  rw [Array.size_replicate] at hfmt
  have HH0 := ξ hH0
  have Hnd := ξ (Tryz.internal_strconv_numDigits u hu1 hu (w.alloc (.cells Lib.zeros24 206)) (Lib.tabIs_alloc htab _))
  have Hfmt := ξ hfmt
  clear hH0 hal hfmt htab
  go_enter Tryz.func278, Tryz.ntmps278
  go_wp2_with fail
  refine Hnd.out.mono ?_
  rintro _ _ ⟨rfl, rfl⟩
  go_wp2_with fail
  refine Hfmt.out.mono ?_
  rintro _ _ ⟨rfl, k, v', dk, rfl, hF⟩
  have hcv : (convert 118 9 (.slice (some ⟨w.heap.size, 0, none⟩) (Lib.nDigits u) 24)).run Tryz.prog ((putRow (fun (b : UInt8) => Value.int .u8 (b.toNat : Int)) (w.alloc (.cells Lib.zeros24 206)) w.heap.size 0 dk).drewN k) = .ok (.string ⟨(Lib.decDigits u).toArray⟩) ((putRow (fun (b : UInt8) => Value.int .u8 (b.toNat : Int)) (w.alloc (.cells Lib.zeros24 206)) w.heap.size 0 dk).drewN k) := by
   have h := run_convert_bytes_back (P := Tryz.prog) ((putRow (fun (b : UInt8) => Value.int .u8 (b.toNat : Int)) (w.alloc (.cells Lib.zeros24 206)) w.heap.size 0 dk).drewN k) 118 9 5 ⟨w.heap.size, 0, none⟩ 24 (Lib.decDigits u) Tryz.underlying118 Tryz.underlying5 Tryz.underlying9 (fun j hj => by
    rw [Lib.row_is_numeral hF j hj, Lib.add_plain, World.cell?_drewN]
    exact cell?_putRow (fun (b : UInt8) => Value.int .u8 (b.toNat : Int)) _ w.heap.size 0 _ dk HH0.out (by rw [hF.size, Array.size_replicate]) j (by rw [hF.size]; rw [Lib.decDigits_length] at hj; exact hj))
   rw [Lib.decDigits_length] at h
   exact h
  go_wp2_with fail
  go_ret
  refine ⟨_, rfl, ?_, rfl⟩
  have e : ∃ os, (putRow (fun (b : UInt8) => Value.int .u8 (b.toNat : Int)) (w.alloc (.cells Lib.zeros24 206)) w.heap.size 0 dk).drewN k = grow (w.drewN k) os := by
   rw [alloc_eq_grow]
   obtain ⟨os', _, e⟩ := putRow_grow_new (fun (b : UInt8) => Value.int .u8 (b.toNat : Int)) w #[Obj.cells Lib.zeros24 206] w.heap.size 0 dk (Nat.le_refl _)
   exact ⟨os', by rw [e]; rfl⟩
  obtain ⟨os, e⟩ := e
  rw [e]
  exact ξca w k os
theorem ξ5m (w : World) (u : Nat) (hu : u < 18446744073709551616) (htab : Tab w) :
  Calls Tryz.prog 236 #[.int .u64 u, .int .i64 10] w (Ret w fun r _ => r = .string ⟨(Lib.decDigits u).toArray⟩) := by
 have HT := ξ htab
 clear htab
 go_enter Tryz.func236, Tryz.ntmps236
 go_wp2_with fail
 refine (ξ5z w u hu HT.out).mono ?_
 rintro _ w1 ⟨_, rfl, g, rfl⟩
 go_wp2_with fail
 go_ret
 exact ⟨_, rfl, g, rfl⟩
end Go.Proofs.YtcjgimlcefhhmaaGreatDoor
namespace Go.Proofs.YtcjgimlcefhhmaaGreatDoor
open Go.RowKit Go.Sort Go.Lib
theorem ξ3Q {a b : Nat} {k m : Nat} (ha : (digs a).length ≤ k) (hb : (digs b).length ≤ m) : (digs (a * b)).length ≤ k + m := by
 have h1 := ξc ha
 have h2 := ξc hb
 refine ξh ?_
 rw [Nat.pow_add]
 exact Nat.mul_lt_mul'' h1 h2
theorem ξ2d {a b : Nat} (h : a ≤ b) : (digs a).length ≤ (digs b).length := by
 refine ξh ?_
 have := ξc (n := b) (Nat.le_refl _)
 omega
theorem ξ0U {l : List Nat} (h : Dig l) : (digs (nval l)).length ≤ l.length := ξN l h
def padD : Nat → Nat → List UInt8
 | 0, _ => []
 | k + 1, r => padD k (r / 10) ++ [UInt8.ofNat (48 + r % 10)]
theorem ξ17 {u : Nat} (h : u < 10) : decDigits u = [UInt8.ofNat (48 + u)] := by rw [decDigits, dif_pos h]
theorem ξ4c {u : Nat} (h : ¬ u < 10) : decDigits u = decDigits (u / 10) ++ [UInt8.ofNat (48 + u % 10)] := by rw [decDigits, dif_neg h]
theorem ξ5L : ∀ (k q r : Nat), 0 < q → r < 10 ^ k → decDigits (q * 10 ^ k + r) = decDigits q ++ padD k r
 | 0, q, r, hq, hr => by
  obtain rfl : r = 0 := by simpa using hr
  simp [padD]
 | k + 1, q, r, hq, hr => by
  have hp : 1 ≤ 10 ^ k := Nat.one_le_pow _ _ (by decide)
  have e : q * 10 ^ (k + 1) + r = 10 * (q * 10 ^ k) + r := by rw [Nat.pow_succ, ← Nat.mul_assoc, Nat.mul_comm _ 10]
  have hqk : 1 ≤ q * 10 ^ k := Nat.mul_pos hq hp
  rw [e, ξ4c (by omega)]
  have e1 : (10 * (q * 10 ^ k) + r) / 10 = q * 10 ^ k + r / 10 := by omega
  have e2 : (10 * (q * 10 ^ k) + r) % 10 = r % 10 := by omega
  rw [e1, e2, ξ5L k q (r / 10) hq (by rw [Nat.pow_succ] at hr; omega), List.append_assoc]
  rfl
theorem ξ5I : ∀ k, padD k 0 = List.replicate k 48
 | 0 => rfl
 | k + 1 => by
  unfold padD
  rw [show (0 : Nat) / 10 = 0 by rfl, ξ5I k, List.replicate_succ']
  rfl
theorem ξ7T : ∀ (k r : Nat), r < 10 ^ (k + 1) → padD (k + 1) r = List.replicate (k + 1 - (decDigits r).length) 48 ++ decDigits r
 | 0, r, hr => by
  have hr : r < 10 := by simpa using hr
  rw [ξ17 hr]
  simp [padD, Nat.mod_eq_of_lt hr]
 | k + 1, r, hr => by
  unfold padD
  by_cases h : r < 10
  ·rw [show r / 10 = 0 by omega, ξ5I, ξ17 h, Nat.mod_eq_of_lt h]
   rfl
  ·rw [ξ7T k (r / 10) (by rw [Nat.pow_succ] at hr; omega), ξ4c h, List.append_assoc, List.length_append]
   congr 1
   congr 1
   simp
theorem ξ2e : ∀ (k r : Nat), r < 10 ^ (k + 1) → (decDigits r).length ≤ k + 1
 | 0, r, hr => by rw [ξ17 (by simpa using hr)]; simp
 | k + 1, r, hr => by
  by_cases h : r < 10
  ·rw [ξ17 h]; simp
  ·rw [ξ4c h, List.length_append]
   have := ξ2e k (r / 10) (by rw [Nat.pow_succ] at hr; omega)
   simp; omega
theorem ξ4m (x : UInt8) : ∀ c, repeatL [x] c = List.replicate c x
 | 0 => rfl
 | c + 1 => by unfold repeatL; rw [ξ4m x c]; rfl
def part (q r : Nat) : List UInt8 := if q = 0 then decDigits r else padD 9 r
theorem ξaM (m : Nat) (hm : 0 < m) : decDigits m = (if m / 1000000000 = 0 then [] else decDigits (m / 1000000000)) ++ part (m / 1000000000) (m % 1000000000) := by
 have h := Nat.div_add_mod m 1000000000
 have hr := Nat.mod_lt m (show 0 < 1000000000 by decide)
 generalize m / 1000000000 = q at *
 generalize m % 1000000000 = r at *
 by_cases hq : q = 0
 ·subst hq
  simp [part]
  rw [← h]; simp
 ·rw [if_neg hq, part, if_neg hq, ← ξ5L 9 q r (by omega) (by simpa using hr), ← h]
  congr 1
  rw [Nat.mul_comm]
def ξ18 (N m : Nat) (ps : List (List UInt8)) : Prop := m = N / 1000000000 ^ ps.length ∧ (N = 0 → ps = []) ∧ (0 < N → decDigits N = (if m = 0 then [] else decDigits m) ++ ps.reverse.flatten)
theorem ξ18.start (N : Nat) : ξ18 N N [] := ⟨by simp, fun _ => rfl, fun h => by simp [show N ≠ 0 by omega]⟩
theorem ξ18.step {N m : Nat} {ps : List (List UInt8)} (h : ξ18 N m ps) (hm : 0 < m) : ξ18 N (m / 1000000000) (ps ++ [part (m / 1000000000) (m % 1000000000)]) := by
 refine ⟨by rw [h.1, List.length_append, Nat.div_div_eq_div_mul]; rfl, fun hN => ?_, fun hN => ?_⟩
 ·have := h.1
  rw [hN, Nat.zero_div] at this
  omega
 rw [h.2.2 hN, if_neg (by omega), ξaM m hm, List.reverse_append]
 simp [List.append_assoc]
theorem ξ18.few {N m : Nat} {ps : List (List UInt8)} (h : ξ18 N m ps) (hm : 0 < m) : ps.length < N := by
 have h1 : 1000000000 ^ ps.length ≤ N := by
  rcases Nat.lt_or_ge N (1000000000 ^ ps.length) with h' | h'
  ·rw [h.1, Nat.div_eq_of_lt h'] at hm; omega
  ·exact h'
 exact Nat.lt_of_lt_of_le (Nat.lt_pow_self (by decide)) h1
theorem ξ18.stop {N : Nat} {ps : List (List UInt8)} (h : ξ18 N 0 ps) : (ps = [] ∧ N = 0) ∨ (ps ≠ [] ∧ decDigits N = ps.reverse.flatten) := by
 by_cases hN : N = 0
 ·exact .inl ⟨h.2.1 hN, hN⟩
 ·have h2 := h.2.2 (by omega)
  refine .inr ⟨fun hp => ?_, by simpa using h2⟩
  subst hp
  have := h.1
  simp at this; omega
def OwnS (w : World) (base : Nat) (v : Value) (xs : List (List UInt8)) : Prop := w.ownsRow base 9 1 v xs.length (xs.map encStr)
theorem OwnS.nil (w : World) (base : Nat) : OwnS w base (.slice none 0 0) [] := World.ownsRow_nil w base _ 1
theorem OwnS.grow {w w' : World} {base : Nat} {v : Value} {l : List (List UInt8)} (h : OwnS w base v l) (g : Gr w w') : OwnS w' base v l := by
 refine World.ownsRow.kept (row := none) h ⟨g.os, g.tape, g.output, g.size, fun k hk _ => Below.block g k hk⟩ ?_
 cases v.ownBlock <;> simp
theorem OwnS.lt {w : World} {base : Nat} {v : Value} {l : List (List UInt8)} (h : OwnS w base v l) : ∀ k, v.ownBlock = some k → base ≤ k ∧ k < w.heap.size := World.ownsRow.lt h
theorem NatL.kept {w w' : World} {row : Option Nat} {v : Value} {l : List Nat} (h : NatL w v l) (hn : ∀ g, row = some g → ξ4d g v) (hg : w.grownBy w' row) : NatL w' v l := by
 cases row with
 | none => exact h.grow ⟨hg.os, hg.tape, hg.output, hg.size, fun k hk => hg.block k hk (by simp)⟩
 | some g => exact h.keep (hn g rfl) hg
theorem ξ4l {g b o n c k : Nat} (h : k < g) (hb : g ≤ b) : ξ4d k (.slice (some ⟨b, o, none⟩) n c) := fun b' o' n' c' e => by
 injection e with e _ _
 injection e with e
 injection e with e
 omega
theorem ξd0 : BB ≤ 10 ^ 10 := by rw [ξ5]; decide
theorem ξ18.bound {N m L : Nat} {ps : List (List UInt8)} (h : ξ18 N m ps) (hm : 0 < m) (hN : N < BB ^ L) : ps.length < 2 * L := by
 have h1 : 1000000000 ^ ps.length ≤ N := by
  rcases Nat.lt_or_ge N (1000000000 ^ ps.length) with h' | h'
  ·rw [h.1, Nat.div_eq_of_lt h'] at hm; omega
  ·exact h'
 have h2 : 65536 ^ ps.length ≤ 1000000000 ^ ps.length := Nat.pow_le_pow_left (by decide) _
 have h3 : BB ^ L = 65536 ^ (2 * L) := by rw [Nat.pow_mul, ξ5]
 rw [h3] at hN
 exact (Nat.pow_lt_pow_iff_right (by decide : 1 < 65536)).1 (Nat.lt_of_le_of_lt h2 (Nat.lt_of_le_of_lt h1 hN))
theorem ξ49 {N L : Nat} (hN : N < BB ^ L) : (decDigits N).length ≤ 10 * L + 1 := by
 refine ξ2e (10 * L) N (Nat.lt_of_lt_of_le hN ?_)
 refine Nat.le_trans (Nat.pow_le_pow_left ξd0 L) ?_
 rw [← Nat.pow_mul]
 exact Nat.pow_le_pow_right (by decide) (by omega)
theorem ξas : (Tryz.prog.info? 9).map (fun i => (i.zero, i.size, i.bytes)) = some (some (.string ⟨#[]⟩), 1, 16) := by kernel_rfl
section
variable {ops : Array Oper} {rest : List Oper} {o : Oper} {a : Act} {Q : Exit → Act → World → Prop} {w : World}
theorem ξ3c (hgd : o.guard = none) (s x : Operand) (ho : o.op = .call { callee := .builtin .append, args := #[s, x], argTypes := #[83, 83] })
  (base : Nat) (v : Value) (l : List (List UInt8)) (m : List UInt8) (b c : Nat) (hs : a.eval s = v) (hown : OwnS w base v l) (hx : a.eval x = .slice (some ⟨b, 0, none⟩) 1 c) (hm : w.cell? ⟨b, 0, none⟩ = some (encStr m))
  (hlen : l.length + 1 ≤ 8796093022208) (hbase : base ≤ w.heap.size)
  (h : ∀ v' w', OwnS w' base v' (l ++ [m]) → w.grownBy w' v.ownBlock → wpList Tryz.prog ops Q rest (a.put o.dst v') w') : wpList Tryz.prog ops Q (o :: rest) a w := by
 obtain ⟨i0, hi, hz0, hz1, hz2⟩ := info_parts ξas
 refine wpList_append_own _ hgd s x 83 ho base 9 i0 (.string ⟨#[]⟩) 1 16 Tryz.underlying83 hi hz0 hz1 hz2 rfl (by omega) v l.length (l.map encStr) hs hown ⟨b, 0, none⟩ 1 c [encStr m] hx
  (by simp) (fun j u hu => ?_) (fun u hu => by
   obtain rfl : u = encStr m := by simpa using hu
   rfl) (by unfold maxLen; omega) (by omega) hbase (fun v' w' hown' hg _ => ?_)
 ·obtain rfl : j = 0 := by
   have := (List.getElem?_eq_some_iff.1 hu).1
   simpa using this
  simp at hu
  subst hu
  rw [ξ3C]; exact hm
 ·refine h v' w' ?_ hg
  unfold OwnS
  rw [List.map_append, List.length_append]
  exact hown'
end
end Go.Proofs.YtcjgimlcefhhmaaGreatDoor
namespace Go.Proofs.YtcjgimlcefhhmaaGreatDoor
open Go.RowKit Go.Sort Go.Lib
def sliceLen : Value → Nat
 | .slice _ n _ => n
 | _ => 0
theorem OwnS.len {w : World} {base : Nat} {v : Value} {l : List (List UInt8)} (h : OwnS w base v l) : sliceLen v = l.length := by
 rcases h.2 with ⟨rfl, h2⟩ | ⟨g, cap, cur, rfl, _⟩
 ·exact h2.symm
 ·rfl
theorem ξ7x (w : World) (c : Nat) (hc : c ≤ 1000) :
  Calls Tryz.prog 237 #[.string ⟨#[48]⟩, .int .i64 c] w (Ret w fun r _ => r = .string ⟨(List.replicate c 48).toArray⟩) := by
 refine (Tryz.strings_Repeat ⟨#[48]⟩ c w (by omega) (by show 1 * c ≤ _; omega)).mono ?_
 rintro _ w1 ⟨rfl, g⟩
 refine ⟨_, rfl, g, ?_⟩
 rw [← ξ4m]
theorem ξ35 {α : Type} : ∀ xs : List (List α), [].intercalate xs = xs.flatten
 | [] => rfl
 | [x] => by simp [List.intercalate]
 | x :: y :: l => by
  have ih := ξ35 (y :: l)
  simp only [List.intercalate, List.intersperse, List.flatten_cons] at ih ⊢
  rw [ih]; simp
theorem ξ55 (ls : List (List UInt8)) : Lib.join ((ls.map fun l => (⟨l.toArray⟩ : ByteArray)).map (·.data.toList)) [] = ls.flatten := by
 rw [Lib.join, ξ35, List.map_map]
 congr 1
 rw [List.map_congr_left (g := id) (fun x _ => by simp)]
 simp
theorem ξ9h (w : World) (z : Nat) (s : List UInt8) (t : TypeId) : (w.alloc (.cells #[.string (⟨Array.replicate z 48⟩ ++ ⟨s.toArray⟩)] t)).cell? ⟨w.heap.size, 0, none⟩ = some (encStr (List.replicate z 48 ++ s)) := by
 have h := ByteArray.mk_append_mk (List.replicate z 48) s
 rw [show (List.replicate z (48 : UInt8)).toArray = Array.replicate z 48 by simp] at h
 rw [h]
 unfold World.cell?
 simp only [heap_alloc_new w _]
 rfl
theorem ξa5 (w : World) (a : Value) (t : TypeId) : (w.alloc (.cells #[a] t)).cell? ⟨w.heap.size, 0, none⟩ = some a := by
 unfold World.cell?
 simp only [heap_alloc_new w _]
 rfl
theorem ξ4H (w : World) (v : Value) (l : List Nat) (h : NatL w v l) (hlen : l.length ≤ 1000000) (htab : Tab w) :
  Calls Tryz.prog 182 #[v] w (Ret w fun r _ => r = .string ⟨(Lib.decDigits (nval l)).toArray⟩) := by
 have HA := ξ h
 have HT := ξ htab
 obtain ⟨N, hN⟩ : ∃ N, nval l = N := ⟨_, rfl⟩
 have HN := ξ hN
 rw [hN]
 clear h htab hN
 go_enter Tryz.func182, Tryz.ntmps182
 go_wp2_with fail
 refine (ξ09 _ v l HA.out).mono ?_
 rintro _ _ ⟨⟨p, k, rfl, hm⟩, rfl⟩
 rw [ξ0S, HN.out] at hm
 have Hm := ξ hm
 clear hm
 go_wp2_with fail
 go_loopw [0, 3] (fun va vp w1 => ∃ (m : Nat) (ps : List (List UInt8)), NatL w1 va (digs m) ∧ OwnS w1 w.heap.size vp ps ∧ Own w.heap.size w w1 ∧ ξ18 N m ps ∧ m ≤ N ∧ ps.length ≤ 2000001) (fun _ vp _ => N + 1 - sliceLen vp)
 case atStart => exact ⟨N, [], Hm.out, OwnS.nil _ _, Own.refl _ _, ξ18.start N, Nat.le_refl _, by decide⟩
 case round =>
  obtain ⟨m, ps, hva, hown, ho, hp, hmN, hpc⟩ := hrel
  have Hva := ξ hva
  have Hown := ξ hown
  have Ho := ξ ho
  have Hp := ξ hp
  have Hb := ξ (show w.heap.size ≤ wr.heap.size from ho.size)
  have hmL : (digs m).length ≤ 1000000 := Nat.le_trans (ξ2d hmN) (by rw [← HN.out]; exact Nat.le_trans (ξ0U HA.out.dig) hlen)
  obtain ⟨pa, ca, rfl, a1, a2, -⟩ := hva.parts
  obtain ⟨n, hn⟩ : ∃ n, (digs m).length = n := ⟨_, rfl⟩
  have Hn := ξ hn
  rw [hn] at Hva hmL a1 ⊢
  clear hva hown ho hp hn
  by_cases hm : m = 0
  ·have hn0 : n = 0 := by rw [← Hn.out, hm]; simp [ξs.2]
   subst hn0
   subst hm
   rcases Hp.out.stop with ⟨rfl, h0⟩ | ⟨hne, hd⟩
   ·have hl := Hown.out.len
    rcases Hown.out.2 with ⟨rfl, h2⟩ | ⟨g, cap, cur, rfl, _⟩
    ·go_wp2_with fail
     go_ret
     exact ⟨_, rfl, Ho.out.gr, by rw [h0, ξ17 (by decide)]; rfl⟩
    ·go_wp2_with fail
     go_ret
     exact ⟨_, rfl, Ho.out.gr, by rw [h0, ξ17 (by decide)]; rfl⟩
   ·have hv : u3 ≠ .slice none 0 0 := fun e => by
     have := Hown.out.len
     rw [e] at this
     exact hne (List.eq_nil_of_length_eq_zero this.symm)
    obtain ⟨g, cap, rfl, hb, hlt, hcap, hmax, hlen2, hH⟩ := Lib.holds_of_ownsRow Hown.out hv
    have hbelow := Hown.out
    obtain ⟨j, hj⟩ : ∃ j, ps.length = j := ⟨_, rfl⟩
    have hR := Tryz.slices_Reverse_string g 0 cap ps wr hH (by omega)
    have hj0 : j ≠ 0 := by rw [← hj]; exact fun e => hne (List.eq_nil_of_length_eq_zero e)
    have hown2 : ∀ q, (putRow encStr (Sort.ahead wr q) g 0 ps.reverse.toArray).ownsRow w.heap.size 9 1 (.slice (some ⟨g, 0, none⟩) j cap) j (ps.reverse.map encStr) := fun q => by
     have h := Lib.ownsRow_putRow (k := j) (q := q) (ys := ps.reverse) Hown.out (by simp) (by omega)
     rwa [List.take_of_length_le (by simp [hj])] at h
    have hbel : ∀ q, Below w.heap.size w (putRow encStr (Sort.ahead wr q) g 0 ps.reverse.toArray) := fun q => Lib.below_putRow Ho.out hb
    rw [hj] at hR hcap hpc
    simp only [hj] at hv ⊢
    have HR := ξ hR
    have HO := ξ hown2
    have HB := ξ hbel
    have Hd := ξ hd
    have Hj := ξ hj
    clear hR hown2 hbel hbelow hH hd hj hv hlen2 hne hmax
    go_wp2_with fail
    refine HR.out.mono ?_
    rintro _ _ ⟨rfl, q, rfl⟩
    have hO := HO.out q
    have hB := HB.out q
    generalize putRow encStr (Sort.ahead wr q) g 0 ps.reverse.toArray = w1 at hO hB
    have hJ := Tryz.strings_Join g 0 cap (ps.reverse.map fun l => ⟨l.toArray⟩) ⟨#[]⟩ w1 (fun i x hx => by
     have hi : i < ps.length := by have := (List.getElem?_eq_some_iff.1 hx).1; simpa using this
     have h2 : (ps.reverse.map encStr)[i]? = some (.string x) := by
      rw [List.getElem?_map] at hx ⊢
      obtain ⟨y, hy, rfl⟩ := Option.map_eq_some_iff.1 hx
      rw [hy]; rfl
     have h4 := World.ownsRow.cells hO (g := g) rfl i _ h2
     rw [ξ3C] at h4; exact h4) (hO.lt g rfl).2 (by simp [Hj.out]; omega) (by simp [Hj.out]; omega) (by
     have e : Lib.join ((ps.reverse.map fun l => (⟨l.toArray⟩ : ByteArray)).map (·.data.toList)) [] = decDigits N := by
      rw [Hd.out]; exact ξ55 _
     rw [show (⟨#[]⟩ : ByteArray).data.toList = [] from rfl, e]
     refine Nat.le_trans (ξ49 (L := l.length) ?_) (by omega)
     rw [← HN.out]; exact ξ1a l HA.out.dig)
    rw [show (ps.reverse.map fun l => (⟨l.toArray⟩ : ByteArray)).length = j by simp [Hj.out], show (⟨#[]⟩ : ByteArray).data.toList = [] from rfl,
     show Lib.join ((ps.reverse.map fun l => (⟨l.toArray⟩ : ByteArray)).map (·.data.toList)) [] = decDigits N by rw [Hd.out]; exact ξ55 _] at hJ
    have HJ := ξ hJ
    have HB1 := ξ hB
    clear hJ hO hB
    go_wp2_with fail
    refine HJ.out.mono ?_
    rintro _ w2 ⟨rfl, gj⟩
    go_wp2_with fail
    go_ret
    exact ⟨_, rfl, Below.trans HB1.out (Below.mono gj HB1.out.size), rfl⟩
  ·have hm0 : 0 < m := by omega
   have hn0 : 0 < n := by rw [← Hn.out]; exact List.length_pos_iff.2 (fun e => hm (ξs.1 e))
   have hpl := Hp.out.few hm0
   go_wp2_with fail
   have hpb : ps.length < 2 * l.length := Hp.out.bound hm0 (by rw [← HN.out]; exact ξ1a l HA.out.dig)
   refine (ξ5b _ _ _ 1000000000 Hva.out (by rw [Hn.out]; omega) (fun e => hm (ξs.1 e)) (by decide) (by decide)).mono ?_
   rintro _ w1 ⟨_, rfl, g1, gx, nx, hgx, rfl, hx⟩
   rw [ξ4] at hx ⊢
   obtain ⟨r, hr⟩ : ∃ r, m % 1000000000 = r := ⟨_, rfl⟩
   obtain ⟨q, hq⟩ : ∃ q, m / 1000000000 = q := ⟨_, rfl⟩
   have hr9 : r < 1000000000 := by rw [← hr]; exact Nat.mod_lt _ (by decide)
   rw [hq] at hx
   rw [hr]
   have Hx := ξ hx
   have Hr := ξ hr
   have Hq := ξ hq
   have hnx : (digs q).length = nx := by obtain ⟨p', c', e, _⟩ := hx.parts; injection e with _ e _; exact e.symm
   have Hnx := ξ hnx
   have G1 := ξ g1
   clear hx hr hq hnx g1
   go_wp2_with fail
   refine (ξ5m w1 r (by omega) (HT.out.grow (Ho.out.gr.trans G1.out))).mono ?_
   rintro _ w2 ⟨_, rfl, g2, rfl⟩
   have G2 := ξ (G1.out.trans g2)
   clear G1
   have hsl : (decDigits r).length ≤ 9 := ξ2e 8 r (by simpa using hr9)
   obtain ⟨s, hs⟩ : ∃ s, decDigits r = s := ⟨_, rfl⟩
   rw [hs] at hsl ⊢
   have Hs := ξ hs
   clear hs
   by_cases hq : q = 0
   ·have hnx0 : nx = 0 := by rw [← Hnx.out, hq]; simp [ξs.2]
    subst hnx0
    have GX := ξ g2
    clear g2
    go_wp2_with (at_builtin; go_must (refine ξ3c rfl _ _ rfl w.heap.size _ ps s w2.heap.size 1 rfl (Hown.out.grow (G2.out.trans ((Gr.refl w2).alloc _))) rfl (ξa5 _ _ _) (by omega) (Nat.le_trans Hb.out (Nat.le_trans G2.out.size (by simp))) ?_; intro v' w' hown' hgrown))
    have hg := hgrown
    have Hg2 : Own w.heap.size w w' := (Ho.out.trans (Own.of_gr (G2.out.trans ((Gr.refl w2).alloc _)) Hb.out)).trans (Own.grown hg (Nat.le_trans Hb.out (Nat.le_trans G2.out.size (by simp))) (fun k hk => (Hown.out.lt k hk).1))
    have hx' : NatL w' (.slice (some ⟨gx, 0, none⟩) 0 0) (digs q) := NatL.kept (Hx.out.grow (GX.out.trans ((Gr.refl w2).alloc _))) (fun k hk => ξ4l (Hown.out.lt k hk).2 hgx) hg
    have hps := Hp.out.step hm0
    rw [Hq.out, Hr.out] at hps
    refine ⟨⟨q, ps ++ [s], hx', hown', Hg2, ?_, ?_, ?_⟩, ?_⟩
    ·rw [show s = part q r from ?_]
     ·exact hps
     ·rw [part, if_pos hq, Hs.out]
    ·exact Nat.le_trans (by rw [← Hq.out]; exact Nat.div_le_self _ _) hmN
    ·rw [List.length_append]; simp; omega
    ·rw [hown'.len, Hown.out.len, List.length_append]; simp; omega
   ·have hnx0 : 0 < nx := by rw [← Hnx.out]; exact List.length_pos_iff.2 (fun e => hq (ξs.1 e))
    have hnxb : nx ≤ 1000000 := by
     rw [← Hnx.out]
     refine Nat.le_trans (ξ2d (Nat.le_trans ?_ hmN)) (by rw [← HN.out]; exact Nat.le_trans (ξ0U HA.out.dig) hlen)
     rw [← Hq.out]; exact Nat.div_le_self _ _
    obtain ⟨z, hz⟩ : ∃ z : Nat, 9 - s.length = z := ⟨_, rfl⟩
    have Ez := ξ (show (9 : Int) - (s.length : Int) = (z : Int) by omega)
    have Hz := ξ hz
    have hzl : z + s.length ≤ 9223372036854775807 := by omega
    clear hz
    have GX0 := ξ g2
    clear g2
    go_wp2_with fail
    rw [Ez.out]
    refine (ξ7x w2 z (by rw [← Hz.out]; omega)).mono ?_
    rintro _ w3 ⟨_, rfl, g3, rfl⟩
    have G2 := ξ (G2.out.trans g3)
    have GX := ξ (GX0.out.trans g3)
    clear g3 GX0
    have Hpad := ξ (show List.replicate z 48 ++ s = padD 9 r by rw [ξ7T 8 r (by simpa using hr9), Hs.out, ← Hz.out])
    go_wp2_with (at_builtin; go_must (refine ξ3c rfl _ _ rfl w.heap.size _ ps (List.replicate z 48 ++ s) w3.heap.size 1 rfl (Hown.out.grow (G2.out.trans ((Gr.refl w3).alloc _))) rfl (ξ9h _ _ _ _) (by omega) (Nat.le_trans Hb.out (Nat.le_trans G2.out.size (by simp))) ?_; intro v' w' hown' hgrown))
    have hg := hgrown
    have Hg2 : Own w.heap.size w w' := (Ho.out.trans (Own.of_gr (G2.out.trans ((Gr.refl w3).alloc _)) Hb.out)).trans (Own.grown hg (Nat.le_trans Hb.out (Nat.le_trans G2.out.size (by simp))) (fun k hk => (Hown.out.lt k hk).1))
    have hx' : NatL w' (.slice (some ⟨gx, 0, none⟩) nx nx) (digs q) := NatL.kept (Hx.out.grow (GX.out.trans ((Gr.refl w3).alloc _))) (fun k hk => ξ4l (Hown.out.lt k hk).2 hgx) hg
    have hps := Hp.out.step hm0
    rw [Hq.out, Hr.out] at hps
    refine ⟨⟨q, ps ++ [List.replicate z 48 ++ s], hx', hown', Hg2, ?_, ?_, ?_⟩, ?_⟩
    ·rw [show List.replicate z 48 ++ s = part q r from ?_]
     ·exact hps
     ·rw [part, if_neg hq, Hpad.out]
    ·exact Nat.le_trans (by rw [← Hq.out]; exact Nat.div_le_self _ _) hmN
    ·rw [List.length_append]; simp; omega
    ·rw [hown'.len, Hown.out.len, List.length_append]; simp; omega
end Go.Proofs.YtcjgimlcefhhmaaGreatDoor

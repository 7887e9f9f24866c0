/- Texts: App PrK PsH Frs. -/
import Derived.Test.YtcjgimlcefhhmaaGreatDoorW15
import Derived.Test.YtcjgimlcefhhmaaGreatDoorW24
import Derived.Test.YtcjgimlcefhhmaaGreatDoorW25
set_option linter.unusedVariables false
set_option linter.unusedSimpArgs false
set_option maxRecDepth 100000
set_option maxHeartbeats 12800000
namespace Go.Proofs.YtcjgimlcefhhmaaGreatDoor
open Go.RowKit
section append
variable {α : Type} {enc : α → List Value} {sz : Nat} {P : Program} {ops : Array Oper} {rest : List Oper} {o : Oper} {a : Act} {Q : Exit → Act → World → Prop} {w : World}
theorem ξ1E (t ty e : TypeId) (z : Value) (bytes : Nat) (ht : P.underlying t = some (.slice e)) (hinfo : (P.info? e).map (fun i => (i.zero, i.size, i.bytes)) = some (some z, sz, bytes)) (hzs : z.cells.size = sz) (hsz : 0 < sz) (he : ∀ x, (enc x).length = sz) (h1 : ∀ x, ∀ u ∈ enc x, u.oneCell' = true)
  (base : Nat) (v vx : Value) (l m : List α) (hown : OwnL w base e sz enc v l) (hm : SlL w sz enc vx m)
  (hlen : (l.length + m.length) * bytes ≤ 140737488355328) (hlen2 : l.length + m.length ≤ 1000000000000) (hbase : base ≤ w.heap.size) (hpos : 0 < m.length) :
  ∃ v' w', (Builtin.append_ #[t, t] ty #[v, vx]).run P w = .ok v' w' ∧ OwnL w' base e sz enc v' (l ++ m) ∧ w.grownBy w' v.ownBlock ∧ (v'.ownBlock = v.ownBlock ∨ v'.ownBlock = some w.heap.size) := by
 obtain ⟨i0, hi, hz0, hz1, hz2⟩ := info_parts hinfo
 obtain ⟨hd, p, c, rfl, k1, k2, k3⟩ := hm
 rcases k3 with rfl | ⟨b, off, rfl, hc⟩
 ·omega
 ·have hnews : ∀ j u, (m.flatMap enc)[j]? = some u → w.cell? ((⟨b, off, none⟩ : Addr).add j) = some u := fun j u hu => by rw [ξ13]; exact hc j u hu
  have hone : ∀ u ∈ m.flatMap enc, u.oneCell' = true := fun u hu => by
   obtain ⟨y, _, hy⟩ := List.mem_flatMap.1 hu
   exact h1 y u hy
  have hml := ξU he m
  obtain ⟨v', w', hr, h2, h3, _⟩ := run_append_own (P := P) w base t ty e i0 z sz bytes ht hi hz0 hz1 hz2 hzs hsz v l.length (l.flatMap enc) hown ⟨b, off, none⟩ m.length c (m.flatMap enc) hml hnews hone (by unfold maxLen; omega) hlen hbase
  have hblk : v'.ownBlock = v.ownBlock ∨ v'.ownBlock = some w.heap.size := by
   subst hz1
   subst hz2
   have hown2 := hown.2
   rcases hown2 with ⟨rfl, h0⟩ | ⟨g, cap, cur, rfl, hbg, hg, hnc, hcm, hcs, htake⟩
   ·have hr2 := run_append_nil (P := P) w t ty e i0 z ht hi hz0 ⟨b, off, none⟩ m.length c (m.flatMap enc) hml hnews hpos (by omega) (by have := hlen; rw [h0] at this; simp only [Nat.zero_add] at this; omega)
    have e1 := hr.symm.trans hr2
    injection e1 with e2 e3
    subst e2
    exact .inr rfl
   ·by_cases hroom : l.length + m.length ≤ cap
    ·have hfit : l.length * i0.size + (m.flatMap enc).length ≤ cur.size := by rw [hml, hcs, ← Nat.add_mul]; exact Nat.mul_le_mul_right _ hroom
     have hr2 := run_append_room (P := P) w t ty e i0 ht hi g l.length cap cur hg ⟨b, off, none⟩ m.length c (m.flatMap enc) hml hnews hone hroom hfit
     have e1 := hr.symm.trans hr2
     injection e1 with e2 e3
     subst e2
     exact .inl rfl
    ·have holds : ∀ j u, (l.flatMap enc)[j]? = some u → w.cell? ((⟨g, 0, none⟩ : Addr).add j) = some u := World.ownsRow.cells (show w.ownsRow base e i0.size _ l.length (l.flatMap enc) from hown) (g := g) rfl
     have hr2 := run_append_grow (P := P) w t ty e i0 z ht hi hz0 ⟨g, 0, none⟩ l.length cap (l.flatMap enc) hown.1 holds ⟨b, off, none⟩ m.length c (m.flatMap enc) hml hnews (by omega) (by omega) (growslice_fits (by omega) hlen)
     have e1 := hr.symm.trans hr2
     injection e1 with e2 e3
     subst e2
     exact .inr rfl
  refine ⟨v', w', hr, ?_, h3, hblk⟩
  unfold OwnL
  rw [List.flatMap_append, List.length_append]
  exact h2
end append
end Go.Proofs.YtcjgimlcefhhmaaGreatDoor
namespace Go.Proofs.YtcjgimlcefhhmaaGreatDoor
namespace Prf
open Go.RowKit
def Dk (w w' : World) : Prop := ∀ (b o : Nat) (z : Int), w.cell? ⟨b, o, none⟩ = some (.int .u32 z) → w'.cell? ⟨b, o, none⟩ = some (.int .u32 z)
theorem Dk.refl (w : World) : Dk w w := fun _ _ _ h => h
theorem Dk.trans {a b c : World} (h : Dk a b) (k : Dk b c) : Dk a c := fun x y z hz => k x y z (h x y z hz)
theorem Dk.gr {w w' : World} (g : Gr w w') : Dk w w' := fun b o z h => g.cell h
def NoU (w : World) (b : Nat) : Prop := ∃ (a : Array Value) (t : TypeId), w.heap[b]? = some (.cells a t (0, 0)) ∧ ∀ (i : Nat) (z : Int), a[i]? ≠ some (Value.int .u32 z)
theorem NoU.cell {w : World} {b o : Nat} {z : Int} (h : NoU w b) : w.cell? ⟨b, o, none⟩ ≠ some (.int .u32 z) := fun e => by
 obtain ⟨a, ty, t, ha⟩ := h
 simp only [World.cell?, t] at e
 exact ha _ _ e
theorem ξ7Q {w : World} {b : Nat} (h : ξ0f w b) : NoU w b := by
 obtain ⟨a, t, h1, h2⟩ := h
 exact ⟨a, t, h1, fun i z => h2 i _ z⟩
theorem NoU.of {w : World} {b : Nat} {vs : Array Value} (h : ξ0 w b vs) (hv : ∀ v ∈ vs, ∀ z, v ≠ Value.int .u32 z) : NoU w b := by
 obtain ⟨t, h⟩ := h
 exact ⟨vs, t, h, fun i z e => hv _ (Array.mem_of_getElem? e) z rfl⟩
theorem Dk.upd {w w' : World} {b : Nat} (hb : NoU w b) (hu : Upd b w w') : Dk w w' := fun x o z h => by
 have hne : x ≠ b := fun e => by subst e; exact hb.cell h
 rw [World.cell?_of_block (w := w) (hu x hne)]
 exact h
theorem Dk.grown {w w' : World} {row : Option Nat} (hg : w.grownBy w' row) (hr : ∀ g, row = some g → NoU w g) : Dk w w' := fun x o z h => by
 have hlt := World.block_lt_of_cell? (w := w) _ h
 have hne : some x ≠ row := fun e => (hr x e.symm).cell h
 rw [World.cell?_of_block (w := w) (hg.block x hlt hne)]
 exact h
theorem ξ5p {w w' : World} {v : Value} {l : List Nat} (h : NatL w v l) (d : Dk w w') : NatL w' v l := by
 obtain ⟨h0, p, c, rfl, h1, h2, h3⟩ := h
 refine ⟨h0, p, c, rfl, h1, h2, ?_⟩
 rcases h3 with h3 | ⟨b, o, rfl, hc⟩
 ·exact .inl h3
 ·exact .inr ⟨b, o, rfl, fun i hi => d _ _ _ (hc i hi)⟩
theorem ξ4a {w w' : World} {v : Value} {z : Int} (h : IntC w v z) (d : Dk w w') : IntC w' v z := by
 obtain ⟨p, k, c, rfl, h⟩ := h; exact ⟨p, k, c, rfl, ξ5p h d⟩
theorem ξ81 {w w' : World} {v : Value} {n : Bool} {l e : List Nat} (h : RatL w v n l e) (d : Dk w w') : RatL w' v n l e := by
 obtain ⟨p, k, c, q, m, f, rfl, h1, h2⟩ := h; exact ⟨p, k, c, q, m, f, rfl, ξ5p h1 d, ξ5p h2 d⟩
theorem ξ2y {w w' : World} {v : Value} {x : Rat} (h : RatC w v x) (d : Dk w w') : RatC w' v x := ξ81 h d
theorem ξ5u {w w' : World} {v : Value} {x : Rat} {L : Nat} (h : RatV w v x L) (d : Dk w w') : RatV w' v x L := by
 obtain ⟨n, l, e, h1, h2⟩ := h; exact ⟨n, l, e, ξ81 h1 d, h2⟩
theorem ξ2W {w w' : World} {b n : Nat} {a : Nat → Rat} {L : Nat} (h : ξd w b n a L) (d : Dk w w') (hb : w'.heap[b]? = w.heap[b]?) : ξd w' b n a L := by
 obtain ⟨T, ⟨t, h1⟩, h2, h3⟩ := h
 exact ⟨T, ⟨t, by rw [hb]; exact h1⟩, h2, fun i t ht => ξ5u (h3 i t ht) d⟩
theorem ξE {w w' : World} {b : Nat} {vs : Array Value} (h : ξ0 w b vs) (hb : w'.heap[b]? = w.heap[b]?) : ξ0 w' b vs := by
 obtain ⟨t, h⟩ := h; exact ⟨t, by rw [hb]; exact h⟩
theorem ξ0.three {w : World} {b : Nat} {x y z : Value} (h : ξ0 w b #[x, y, z]) : ξe w b x y z := h
theorem fill5 {a w : World} {b : Nat} {x0 x1 x2 x3 x4 : Value} (u0 u1 u2 u3 u4 : Value) (h : ξ0 w b #[x0, x1, x2, x3, x4]) (g : Gr a w) (hb : a.heap.size ≤ b) :
  Gr a (((((w.setCell ⟨b, 0, none⟩ u0).setCell ⟨b, 1, none⟩ u1).setCell ⟨b, 2, none⟩ u2).setCell ⟨b, 3, none⟩ u3).setCell ⟨b, 4, none⟩ u4) ∧
  ξ0 (((((w.setCell ⟨b, 0, none⟩ u0).setCell ⟨b, 1, none⟩ u1).setCell ⟨b, 2, none⟩ u2).setCell ⟨b, 3, none⟩ u3).setCell ⟨b, 4, none⟩ u4) b #[u0, u1, u2, u3, u4] ∧
  Upd b w (((((w.setCell ⟨b, 0, none⟩ u0).setCell ⟨b, 1, none⟩ u1).setCell ⟨b, 2, none⟩ u2).setCell ⟨b, 3, none⟩ u3).setCell ⟨b, 4, none⟩ u4) := by
 have hb' : ¬ b < a.heap.size := by omega
 refine ⟨Gr.set (Gr.set (Gr.set (Gr.set (Gr.set g hb' _) hb' _) hb' _) hb' _) hb' _, ?_, fun i hi => ?_⟩
 ·have := ((((h.set 0 u0).set 1 u1).set 2 u2).set 3 u3).set 4 u4
  simpa using this
 ·rw [Below.heap_setCell _ _ _ _ hi, Below.heap_setCell _ _ _ _ hi, Below.heap_setCell _ _ _ _ hi, Below.heap_setCell _ _ _ _ hi, Below.heap_setCell _ _ _ _ hi]
def ξn (w : World) (base : Nat) (v : Value) (l : List ξ8) : Prop := OwnL w base 75 2 encTerm v l ∧ ∀ g, v.ownBlock = some g → NoU w g
theorem ξn.grow {w w' : World} {base : Nat} {v : Value} {l : List ξ8} (h : ξn w base v l) (g : Gr w w') : ξn w' base v l := by
 refine ⟨h.1.grow g, fun b hb => ?_⟩
 obtain ⟨a, t, h1, h2⟩ := h.2 b hb
 have hlt := (h.1.lt b hb).2
 exact ⟨a, t, by rw [Below.block g b hlt]; exact h1, h2⟩
theorem ξn.same {w w' : World} {base b : Nat} {v : Value} {l : List ξ8} (h : ξn w base v l) (hu : Upd b w w') (hs : w'.heap.size = w.heap.size) (hne : v.ownBlock ≠ some b) (ho : w'.os = w.os) (ht : w'.tape = w.tape) (hp : w'.output = w.output) : ξn w' base v l := by
 refine ⟨World.ownsRow.kept (row := some b) h.1 ⟨ho, ht, hp, by omega, fun k hk hn => hu k (fun e => hn (congrArg some e))⟩ (.inr hne), fun g hg => ?_⟩
 obtain ⟨a, t, h1, h2⟩ := h.2 g hg
 exact ⟨a, t, by rw [hu g (fun e => hne (by rw [hg, e]))]; exact h1, h2⟩
theorem ξn.nil (w : World) (base : Nat) : ξn w base (.slice none 0 0) [] := ⟨OwnL.nil w base _, fun g h => by cases h⟩
theorem ξ67 : (Tryz.prog.info? 75).map (fun i => (i.zero, i.size, i.bytes)) = some (some (.agg #[.int .i64 0, .int .i64 0]), 2, 16) := by kernel_rfl
theorem ξ4g : ∀ x, ∀ u ∈ encTerm x, u.oneCell' = true := fun x u hu => by
 simp [encTerm] at hu
 rcases hu with rfl | rfl <;> rfl
theorem ξ5N : ∀ (l : List ξ8), ∀ u ∈ l.flatMap encTerm, ∀ z, u ≠ Value.int .u32 z := fun l u hu z => by
 obtain ⟨t, _, ht⟩ := List.mem_flatMap.1 hu
 simp [encTerm] at ht
 rcases ht with rfl | rfl <;> (intro h; cases h)
theorem ξ9R (n : Nat) : ∀ u ∈ Builtin.zeroCells (Value.agg #[.int .i64 0, .int .i64 0]).cells n, ∀ z, u ≠ Value.int .u32 z := fun u hu z => by
 obtain ⟨i, _, rfl⟩ := Array.mem_map.1 hu
 have h3 : i % 2 = 0 ∨ i % 2 = 1 := by omega
 simp only [Value.cells]
 rcases h3 with h | h <;> simp [h, Value.cells]
theorem ξ7G (w : World) (base : Nat) (v vx : Value) (l : List ξ8) (t : ξ8) (ty : TypeId) (hown : ξn w base v l) (hm : ξ0s w vx [t]) (hlen : l.length ≤ 1000000) (hbase : base ≤ w.heap.size) :
  ∃ v' w', (Builtin.append_ #[40, 40] ty #[v, vx]).run Tryz.prog w = .ok v' w' ∧ ξn w' base v' (l ++ [t]) ∧ w.grownBy w' v.ownBlock ∧ Dk w w' ∧ (v'.ownBlock = v.ownBlock ∨ v'.ownBlock = some w.heap.size) := by
 obtain ⟨v', w', hr, h1, h2, h3⟩ := ξ1E (ty := ty) 40 75 _ 16 Tryz.underlying40 ξ67 rfl (by decide) ξ0a ξ4g base v vx l [t] hown.1 hm (by simp; omega) (by simp; omega) hbase (by simp)
 refine ⟨v', w', hr, ⟨h1, fun g hg => ?_⟩, h2, Dk.grown h2 hown.2, h3⟩
 obtain ⟨i0, hi, hz0, hz1, hz2⟩ := info_parts ξ67
 obtain ⟨hd, p, c, rfl, k1, k2, k3⟩ := hm
 rcases k3 with rfl | ⟨b, off, rfl, hc⟩
 ·simp at k1
 have hnews : ∀ j u, (([t] : List ξ8).flatMap encTerm)[j]? = some u → w.cell? ((⟨b, off, none⟩ : Addr).add j) = some u := fun j u hu => by rw [ξ13]; exact hc j u hu
 have hml : (([t] : List ξ8).flatMap encTerm).length = 1 * i0.size := by rw [hz1]; exact ξU ξ0a [t]
 have hu1 := ξ5N [t]
 rcases hown.1.2 with ⟨rfl, h0⟩ | ⟨g0, cap, cur, rfl, hbg, hg0, hnc, hcm, hcs, htake⟩
 ·have hr2 := run_append_nil (P := Tryz.prog) w 40 ty 75 i0 _ Tryz.underlying40 hi hz0 ⟨b, off, none⟩ 1 c _ hml hnews (by omega) (by omega) (by rw [hz2]; omega)
  have e1 := hr.symm.trans hr2
  injection e1 with e2 e3
  subst e2 e3
  obtain rfl : w.heap.size = g := by simpa [Value.ownBlock] using hg
  refine ⟨_, _, heap_alloc_new w.drew _, fun i z e => ?_⟩
  rcases Array.mem_append.1 (Array.mem_of_getElem? e) with h | h
  ·exact hu1 _ (by simpa using h) z rfl
  ·exact ξ9R _ _ h z rfl
 ·by_cases hroom : l.length + 1 ≤ cap
  ·have hfit : l.length * i0.size + (([t] : List ξ8).flatMap encTerm).length ≤ cur.size := by
    have := Nat.mul_le_mul_right 2 hroom
    rw [hml, hcs, hz1]; omega
   have hr2 := run_append_room (P := Tryz.prog) w 40 ty 75 i0 Tryz.underlying40 hi g0 l.length cap cur hg0 ⟨b, off, none⟩ 1 c _ hml hnews (fun u hu => ξ4g t u (by simpa using hu)) hroom hfit
   have e1 := hr.symm.trans hr2
   injection e1 with e2 e3
   subst e2 e3
   obtain rfl : g0 = g := by simpa [Value.ownBlock] using hg
   obtain ⟨a, ta, ha1, ha2⟩ := hown.2 g0 rfl
   rw [hg0] at ha1
   injection ha1 with ha1
   injection ha1 with q1 q2 q3
   subst q1
   refine ⟨(cur.toList.take (l.length * i0.size) ++ ([t] : List ξ8).flatMap encTerm ++ cur.toList.drop (l.length * i0.size + (([t] : List ξ8).flatMap encTerm).length)).toArray, 75, by simp [World.setRow, Array.getElem?_modify, hg0], fun i z e => ?_⟩
   have hmem := Array.mem_of_getElem? e
   rw [List.mem_toArray] at hmem
   rcases List.mem_append.1 hmem with h | h
   ·rcases List.mem_append.1 h with h | h
    ·obtain ⟨j, hj, hje⟩ := List.getElem_of_mem (List.mem_of_mem_take h)
     exact ha2 j z (by rw [← hje]; simp at hj; simp [hj])
    ·exact hu1 _ h z rfl
   ·obtain ⟨j, hj, hje⟩ := List.getElem_of_mem (List.mem_of_mem_drop h)
    exact ha2 j z (by rw [← hje]; simp at hj; simp [hj])
  ·have holds : ∀ j u, (l.flatMap encTerm)[j]? = some u → w.cell? ((⟨g0, 0, none⟩ : Addr).add j) = some u := World.ownsRow.cells (show w.ownsRow base 75 2 _ l.length (l.flatMap encTerm) from hown.1) (g := g0) rfl
   have hr2 := run_append_grow (P := Tryz.prog) w 40 ty 75 i0 _ Tryz.underlying40 hi hz0 ⟨g0, 0, none⟩ l.length cap _ (by rw [hz1]; exact ξU ξ0a l) holds ⟨b, off, none⟩ 1 c _ hml hnews (by omega) (by omega) (growslice_fits (by omega) (by rw [hz2]; omega))
   have e1 := hr.symm.trans hr2
   injection e1 with e2 e3
   subst e2 e3
   obtain rfl : w.heap.size = g := by simpa [Value.ownBlock] using hg
   refine ⟨_, _, heap_alloc_new w.drew _, fun i z e => ?_⟩
   rcases Array.mem_append.1 (Array.mem_of_getElem? e) with h | h
   ·rcases Array.mem_append.1 h with h | h
    ·exact ξ5N l _ (by simpa using h) z rfl
    ·exact hu1 _ (by simpa using h) z rfl
   ·exact ξ9R _ _ h z rfl
end Prf
end Go.Proofs.YtcjgimlcefhhmaaGreatDoor
namespace Go.Proofs.YtcjgimlcefhhmaaGreatDoor
namespace Prf
open Go.RowKit Go.Lib
def moreZ (vs : List VarM) (u : Nat → Int) : Nat → Int
 | 0 => 0
 | k + 1 => moreZ vs u k + match vs[k]? with | some v => u k * v.lo | none => 0
theorem ξ9Z {vs : List VarM} {u : Nat → Int} {k : Nat} {v : VarM} (h : vs[k]? = some v) : moreZ vs u (k + 1) = moreZ vs u k + u k * v.lo := by
 show moreZ vs u k + _ = _
 rw [h]
theorem ξ8g (vs : List VarM) (u : Nat → Int) : ∀ k, sumQ (loT vs (fun j => (u j : Rat))) k = (moreZ vs u k : Rat)
 | 0 => rfl
 | k + 1 => by
  rw [ξ0Y, ξ8g vs u k]
  show _ = ((moreZ vs u k + _ : Int) : Rat)
  unfold loT
  cases vs[k]? with
  | none => rw [Rat.intCast_add]; rfl
  | some v => rw [Rat.intCast_add, Rat.intCast_mul]
theorem ξ7E (p : Prg) (y : List Rat) : cutBound p y = ceilQ (combB p y - sumQ (loT p.vars (combA p y)) p.vars.length) + moreZ p.vars (fun j => ceilQ (combA p y j)) p.vars.length := by
 unfold cutBound
 rw [ξ8g, Rat.floor_intCast]
def ξdc (w : World) (b : Nat) (z : Int) : Prop := ∃ n p k c, Two w b (.bool n) (.slice p k c) ∧ IntC w (.agg #[.bool n, .slice p k c]) z
def rowZ : Array Value := #[.string ⟨#[]⟩, .int .i64 0, .int .i64 0, .slice none 0 0, .int .i64 0]
def rowT (tv : Value) : Array Value := #[.string ⟨cutName.toArray⟩, .int .i64 0, .int .i64 1, tv, .int .i64 0]
structure ξ1i (w W : World) (bp b4 bo b7 b9 b10 : Nat) (u0 u1 : Value) (n : Nat) (A : Nat → Rat) (s : Rat) (tv : Value) (ts : List ξ8) (mz : Int) : Prop where
 g : Gr w W
 tp : ξ0 W bp #[u0, u1]
 t4 : ξ0 W b4 rowZ
 ro : ξd W bo n A 80
 t7 : ξQ W b7 s
 t9 : ξ0 W b9 (rowT tv)
 tw : ξn W w.heap.size tv ts
 t10 : ξdc W b10 mz
 ne : ∀ b, tv.ownBlock = some b → b ≠ bp ∧ b ≠ b4 ∧ b ≠ bo ∧ b ≠ b7 ∧ b ≠ b9 ∧ b ≠ b10
structure ξ8P (w : World) (bp b4 bo b7 b9 b10 : Nat) : Prop where
 n4 : w.heap.size ≤ b4
 n7 : w.heap.size ≤ b7
 n9 : w.heap.size ≤ b9
 n10 : w.heap.size ≤ b10
 p : bp ≠ b7 ∧ bp ≠ b9 ∧ bp ≠ b10 ∧ bp ≠ b4
 x4 : b4 ≠ bo ∧ b4 ≠ b7 ∧ b4 ≠ b9 ∧ b4 ≠ b10
 xo : bo ≠ b7 ∧ bo ≠ b9 ∧ bo ≠ b10
 x7 : b7 ≠ b9 ∧ b7 ≠ b10
 x9 : b9 ≠ b10
section
variable {w W : World} {bp b4 bo b7 b9 b10 : Nat} {u0 u1 : Value} {n : Nat} {A : Nat → Rat} {s : Rat} {tv : Value} {ts : List ξ8} {mz : Int}
theorem ξ1i.grow {W' : World} (h : ξ1i w W bp b4 bo b7 b9 b10 u0 u1 n A s tv ts mz) (g : Gr W W') : ξ1i w W' bp b4 bo b7 b9 b10 u0 u1 n A s tv ts mz := by
 obtain ⟨a, b, c, d, e, f⟩ := h.t10
 exact ⟨h.g.trans g, h.tp.grow g, h.t4.grow g, h.ro.grow g, h.t7.grow g, h.t9.grow g, h.tw.grow g, ⟨a, b, c, d, e.grow g, f.grow g⟩, h.ne⟩
theorem ξ1g {w : World} {base b : Nat} {v : Value} {l : List ξ8} (h : ξn w base v l) (hb : ∀ g, v.ownBlock = some g → g ≠ b) : v.ownBlock ≠ some b := fun e => hb b e rfl
theorem ξ1i.putB {s' : Rat} {t : RatM} (h : ξ1i w W bp b4 bo b7 b9 b10 u0 u1 n A s tv ts mz) (hn : ξ8P w bp b4 bo b7 b9 b10) (ht : RatC W t.v s') :
  ξ1i w (set3 W b7 (.bool t.n) (.slice t.p t.k t.c) (.slice t.q t.m t.e)) bp b4 bo b7 b9 b10 u0 u1 n A s' tv ts mz := by
 have hu := upd3 W b7 (.bool t.n) (.slice t.p t.k t.c) (.slice t.q t.m t.e)
 have hd := Dk.upd (ξ7Q h.t7.noInt) hu
 obtain ⟨a, b, c, d, e, f⟩ := h.t10
 exact ⟨ξ03 h.g hn.n7 _ _ _, h.tp.upd hu hn.p.1, h.t4.upd hu hn.x4.2.1, h.ro.upd h.t7.noInt hu hn.xo.1, h.t7.put ht, h.t9.upd hu hn.x7.1.symm,
  h.tw.same hu (by simp [set3, World.setCell]) (ξ1g h.tw fun g hg => (h.ne g hg).2.2.2.1) rfl rfl rfl, ⟨a, b, c, d, e.upd hu hn.x7.2.symm, ξ4a f hd⟩, h.ne⟩
theorem ξ1i.putM {mz' : Int} {nn : Bool} {pp : Option Addr} {kk cc : Nat} (h : ξ1i w W bp b4 bo b7 b9 b10 u0 u1 n A s tv ts mz) (hn : ξ8P w bp b4 bo b7 b9 b10) (ht : IntC W (.agg #[.bool nn, .slice pp kk cc]) mz') :
  ξ1i w (set2 W b10 (.bool nn) (.slice pp kk cc)) bp b4 bo b7 b9 b10 u0 u1 n A s tv ts mz' := by
 obtain ⟨a, b, c, d, e, f⟩ := h.t10
 have hu := upd2 W b10 (.bool nn) (.slice pp kk cc)
 have hd := Dk.upd (ξ7Q e.noInt) hu
 exact ⟨Gr.set (Gr.set h.g (by have := hn.n10; omega) _) (by have := hn.n10; omega) _, h.tp.upd hu hn.p.2.2.1, h.t4.upd hu hn.x4.2.2.2, h.ro.upd e.noInt hu hn.xo.2.2, h.t7.upd e.noInt hu hn.x7.2, h.t9.upd hu hn.x9,
  h.tw.same hu (by simp [set2, World.setCell]) (ξ1g h.tw fun g hg => (h.ne g hg).2.2.2.2.2) rfl rfl rfl, ⟨nn, pp, kk, cc, e.set _ _, ξ4a ht hd⟩, h.ne⟩
theorem ξ9z (tv : Value) (h : ∀ z, tv ≠ Value.int .u32 z) : ∀ v ∈ rowT tv, ∀ z, v ≠ Value.int .u32 z := fun v hv z => by
 simp [rowT] at hv
 rcases hv with rfl | rfl | rfl | rfl | rfl
 ·intro e; cases e
 ·intro e; cases e
 ·intro e; cases e
 ·exact h z
 ·intro e; cases e
theorem ξ0C {w : World} {base : Nat} {v : Value} {l : List ξ8} (h : ξn w base v l) : ∃ p c, v = .slice p l.length c := by
 obtain ⟨p, c, e, _⟩ := h.1.read.parts
 exact ⟨p, c, e⟩
theorem ξ1i.putT {W1 : World} {tv' : Value} {t : ξ8} (h : ξ1i w W bp b4 bo b7 b9 b10 u0 u1 n A s tv ts mz) (hn : ξ8P w bp b4 bo b7 b9 b10) (h1 : ξn W1 w.heap.size tv' (ts ++ [t])) (hg : W.grownBy W1 tv.ownBlock) (hd : Dk W W1)
  (hb : tv'.ownBlock = tv.ownBlock ∨ tv'.ownBlock = some W.heap.size) :
  (W1.cell? ⟨b9, 3, none⟩ = some tv ∧ W1.frozen? ⟨b9, 3, none⟩ = false) ∧ ξ1i w (W1.setCell ⟨b9, 3, none⟩ tv') bp b4 bo b7 b9 b10 u0 u1 n A s tv' (ts ++ [t]) mz := by
 have keep : ∀ b vs, ξ0 W b vs → (∀ g, tv.ownBlock = some g → g ≠ b) → W1.heap[b]? = W.heap[b]? := fun b vs hc hne => hg.block b hc.lt (fun e => hne b e.symm rfl)
 obtain ⟨a, b, c, d, e, f⟩ := h.t10
 obtain ⟨T, hT, _⟩ := h.ro
 obtain ⟨t7, ht7, hc7⟩ := h.t7
 have k9 := keep b9 _ h.t9 fun g hg => (h.ne g hg).2.2.2.2.1
 have c9 := ξE h.t9 k9
 have hG1 : Gr w W1 := OwnL.gr h.tw.1 h.g hg
 have hu := ξx W1 b9 3 tv'
 obtain ⟨pt, ct, htv⟩ := ξ0C h.tw
 obtain ⟨pt', ct', htv'⟩ := ξ0C h1
 have hnu : NoU W1 b9 := NoU.of c9 (ξ9z tv fun z e => by rw [htv] at e; cases e)
 have hd2 := Dk.upd hnu hu
 have hsz := hg.size
 have hne : ∀ g, tv'.ownBlock = some g → g ≠ bp ∧ g ≠ b4 ∧ g ≠ bo ∧ g ≠ b7 ∧ g ≠ b9 ∧ g ≠ b10 := fun g hg' => by
  rcases hb with hb | hb
  ·exact h.ne g (hb ▸ hg')
  ·rw [hb] at hg'
   obtain rfl := Option.some.inj hg'
   have l1 := h.tp.lt
   have l2 := h.t4.lt
   have l3 := hT.lt
   have l4 := ht7.lt
   have l5 := h.t9.lt
   have l6 := e.lt
   exact ⟨by omega, by omega, by omega, by omega, by omega, by omega⟩
 refine ⟨⟨c9.at 3 rfl, c9.f 3⟩, ⟨Gr.set hG1 (by have := hn.n9; omega) _, ?_, ?_, ?_, ?_, ?_, ?_, ?_, hne⟩⟩
 ·exact (ξE h.tp (keep bp _ h.tp fun g hg => (h.ne g hg).1)).upd hu hn.p.2.1
 ·exact (ξE h.t4 (keep b4 _ h.t4 fun g hg => (h.ne g hg).2.1)).upd hu hn.x4.2.2.1
 ·exact ξ2W (ξ2W h.ro hd (keep bo _ hT fun g hg => (h.ne g hg).2.2.1)) hd2 (hu bo hn.xo.2.1)
 ·exact ⟨t7, by
   obtain ⟨ty, h7⟩ := ht7
   exact ⟨ty, by rw [hu b7 hn.x7.1, hg.block b7 (by have := (Array.getElem?_eq_some_iff.1 h7).1; exact this) (fun e => (h.ne b7 e.symm).2.2.2.1 rfl)]; exact h7⟩, ξ2y (ξ2y hc7 hd) hd2⟩
 ·have := c9.set 3 tv'
  simpa [rowT] using this
 ·exact h1.same hu (by simp [World.setCell]) (ξ1g h1 fun g hg => (hne g hg).2.2.2.2.1) rfl rfl rfl
 ·exact ⟨a, b, c, d, by
   obtain ⟨ty, h10⟩ := e
   exact ⟨ty, by rw [hu b10 hn.x9.symm, hg.block b10 (Array.getElem?_eq_some_iff.1 h10).1 (fun e => (h.ne b10 e.symm).2.2.2.2.2 rfl)]; exact h10⟩, ξ4a (ξ4a f hd) hd2⟩
end
end Prf
end Go.Proofs.YtcjgimlcefhhmaaGreatDoor
namespace Go.Proofs.YtcjgimlcefhhmaaGreatDoor
open Go.RowKit
section append
variable {α : Type} {enc : α → List Value} {sz : Nat} {P : Program} {o : Oper} {a : Act} {K : Act → World → Prop} {Q : Exit → Act → World → Prop} {w : World}
theorem ξ3V (t ty e : TypeId) (z : Value) (bytes : Nat) (ht : P.underlying t = some (.slice e)) (hinfo : (P.info? e).map (fun i => (i.zero, i.size, i.bytes)) = some (some z, sz, bytes)) (hzs : z.cells.size = sz) (hsz : 0 < sz) (he : ∀ x, (enc x).length = sz) (h1 : ∀ x, ∀ u ∈ enc x, u.oneCell' = true)
  (base : Nat) (p : Option Addr) (vx : Value) (l m : List α) (hown : OwnL w base e sz enc (.slice p l.length l.length) l) (hm : SlL w sz enc vx m)
  (hlen : (l.length + m.length) * bytes ≤ 140737488355328) (hlen2 : l.length + m.length ≤ 1000000000000) (hbase : base ≤ w.heap.size) :
  ∃ v' w', (Builtin.append_ #[t, t] ty #[.slice p l.length l.length, vx]).run P w = .ok v' w' ∧ OwnL w' base e sz enc v' (l ++ m) ∧ Gr w w' := by
 obtain ⟨i0, hi, hz0, hz1, hz2⟩ := info_parts hinfo
 obtain ⟨hd, q, c, rfl, k1, k2, k3⟩ := hm
 by_cases hpos : 0 < m.length
 ·rcases k3 with rfl | ⟨b, off, rfl, hc⟩
  ·omega
  ·have hnews : ∀ j u, (m.flatMap enc)[j]? = some u → w.cell? ((⟨b, off, none⟩ : Addr).add j) = some u := fun j u hu => by rw [ξ13]; exact hc j u hu
   have hone : ∀ u ∈ m.flatMap enc, u.oneCell' = true := fun u hu => by
    obtain ⟨y, _, hy⟩ := List.mem_flatMap.1 hu
    exact h1 y u hy
   have hml := ξU he m
   obtain ⟨v', w', hr, h2, h3, _⟩ := run_append_own (P := P) w base t ty e i0 z sz bytes ht hi hz0 hz1 hz2 hzs hsz _ l.length (l.flatMap enc) hown ⟨b, off, none⟩ m.length c (m.flatMap enc) hml hnews hone (by unfold maxLen; omega) hlen hbase
   have hg : Gr w w' := by
    subst hz1
    subst hz2
    have hown2 := hown.2
    rcases hown2 with ⟨hv, h0⟩ | ⟨g, cap, cur, hv, hbg, hg, hnc, hcm, hcs, htake⟩
    ·injection hv with hv1 hv2 hv3
     subst hv1
     rw [hv2] at hr
     have hr2 := run_append_nil (P := P) w t ty e i0 z ht hi hz0 ⟨b, off, none⟩ m.length c (m.flatMap enc) hml hnews hpos (by omega) (by have := hlen; rw [h0] at this; simp only [Nat.zero_add] at this; omega)
     have e1 := hr.symm.trans hr2
     injection e1 with e2 e3
     subst e3
     exact (Gr.refl w).drew.alloc _
    ·injection hv with hv1 hv2 hv3
     subst hv1
     have holds : ∀ j u, (l.flatMap enc)[j]? = some u → w.cell? ((⟨g, 0, none⟩ : Addr).add j) = some u := World.ownsRow.cells (show w.ownsRow base e i0.size _ l.length (l.flatMap enc) from hown) (g := g) rfl
     have hr2 := run_append_grow (P := P) w t ty e i0 z ht hi hz0 ⟨g, 0, none⟩ l.length l.length (l.flatMap enc) hown.1 holds ⟨b, off, none⟩ m.length c (m.flatMap enc) hml hnews (by omega) (by omega) (growslice_fits (by omega) hlen)
     have e1 := hr.symm.trans hr2
     injection e1 with e2 e3
     subst e3
     exact (Gr.refl w).drew.alloc _
   refine ⟨v', w', hr, ?_, hg⟩
   unfold OwnL
   rw [List.flatMap_append, List.length_append]
   exact h2
 ·have hm0 : m = [] := List.eq_nil_of_length_eq_zero (by omega)
  subst hm0
  refine ⟨_, w, ?_, by rw [List.append_nil]; exact hown, Gr.refl w⟩
  cases p <;> cases q <;> simp [Builtin.append_, run_underlying ht, sizeOf, typeInfo, hi, Builtin.lenOf, Builtin.firstCells, loadCells, loadCellsFrom, storeCells]
theorem ξ3v (s x : Operand) (t e : TypeId) (z : Value) (bytes : Nat) (ho : o.op = .call { callee := .builtin .append, args := #[s, x], argTypes := #[t, t] })
  (ht : P.underlying t = some (.slice e)) (hinfo : (P.info? e).map (fun i => (i.zero, i.size, i.bytes)) = some (some z, sz, bytes)) (hzs : z.cells.size = sz) (hsz : 0 < sz) (he : ∀ x, (enc x).length = sz) (h1 : ∀ x, ∀ u ∈ enc x, u.oneCell' = true)
  (base : Nat) (p : Option Addr) (vx : Value) (l m : List α) (hs : a.eval s = .slice p l.length l.length) (hown : OwnL w base e sz enc (.slice p l.length l.length) l) (hx : a.eval x = vx) (hm : SlL w sz enc vx m)
  (hlen : (l.length + m.length) * bytes ≤ 140737488355328) (hlen2 : l.length + m.length ≤ 1000000000000) (hbase : base ≤ w.heap.size)
  (h : ∀ v' w', OwnL w' base e sz enc v' (l ++ m) → Gr w w' → K (a.put o.dst v') w') : Oper.wp P o a w K Q := by
 obtain ⟨v', w', hr, h2, h3⟩ := ξ3V (ty := o.type) t e z bytes ht hinfo hzs hsz he h1 base p vx l m hown hm hlen hlen2 hbase
 unfold Oper.wp execOp
 simp only [ho, resolve, invoke, builtin, Sem.run_bind, Sem.run_pure, Result.andThen_ok, List.map_toArray, List.map_cons, List.map_nil, hs, hx, hr]
 exact h v' w' h2 h3
theorem ξ8N (s x : Operand) (t e : TypeId) (z : Value) (bytes : Nat) (ho : o.op = .call { callee := .builtin .append, args := #[s, x], argTypes := #[t, t] })
  (ht : P.underlying t = some (.slice e)) (hinfo : (P.info? e).map (fun i => (i.zero, i.size, i.bytes)) = some (some z, sz, bytes))
  (p q : Option Addr) (n c d : Nat) (hs : a.eval s = .slice p n c) (hn : n ≤ c) (hp : p ≠ none ∨ c = 0) (hx : a.eval x = .slice q 0 d)
  (h : K (a.put o.dst (.slice p n c)) w) : Oper.wp P o a w K Q := by
 obtain ⟨i0, hi, hz0, hz1, hz2⟩ := info_parts hinfo
 have hr : (Builtin.append_ #[t, t] o.type #[.slice p n c, .slice q 0 d]).run P w = .ok (.slice p n c) w := by
  cases p with
  | none =>
   have hc : c = 0 := hp.resolve_left (fun h => h rfl)
   have hn0 : n = 0 := by omega
   subst hc hn0
   cases q <;> simp [Builtin.append_, run_underlying ht, sizeOf, typeInfo, hi, Builtin.lenOf, Builtin.firstCells, loadCells, loadCellsFrom]
  | some p => cases q <;> simp [Builtin.append_, run_underlying ht, sizeOf, typeInfo, hi, Builtin.lenOf, Builtin.firstCells, loadCells, loadCellsFrom, hn, storeCells]
 unfold Oper.wp execOp
 simp only [ho, resolve, invoke, builtin, Sem.run_bind, Sem.run_pure, Result.andThen_ok, List.map_toArray, List.map_cons, List.map_nil, hs, hx, hr]
 exact h
end append
end Go.Proofs.YtcjgimlcefhhmaaGreatDoor

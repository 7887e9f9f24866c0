/- Texts: PsJ. -/
import Derived.Test.YtcjgimlcefhhmaaGreatDoorW12
import Derived.Test.YtcjgimlcefhhmaaGreatDoorW27
set_option linter.unusedVariables false
set_option linter.unusedSimpArgs false
set_option maxRecDepth 100000
set_option maxHeartbeats 12800000
namespace Go.Proofs.YtcjgimlcefhhmaaGreatDoor
namespace Prf
open Go.RowKit Go.Lib
theorem in_I {n : Int} (h : In n) : I64 n := by unfold In at h; unfold I64; omega
theorem ξr.i {p : Prg} (h : ξr p) : PrgI p := by
 refine ⟨fun v hv => ?_, fun r hr => ?_⟩
 ·have k := h.2.2.1 v hv
  exact ⟨in_I k.1, in_I k.2.1, in_I k.2.2.1⟩
 ·have k := h.2.2.2 r hr
  have hn := h.1
  refine ⟨by have := k.2.1; unfold I64; omega, by have := k.1; unfold I64; omega, in_I k.2.2.2.1, fun t ht => ?_⟩
  obtain ⟨i, hi, rfl⟩ := List.getElem_of_mem ht
  have h1 := ξ1q _ _ i _ (List.getElem?_eq_getElem hi) k.2.2.2.2.2
  have h2 := ξ3K (Int.le_refl _) k.2.2.2.2.2 _ (List.getElem_mem hi)
  exact ⟨by unfold I64; omega, in_I h1.2.2.2⟩
theorem ξr.nl {p : Prg} (h : ξr p) : ∀ r ∈ p.rows, r.name.length ≤ 1000000 := fun r hr => by
 have := (h.2.2.2 r hr).2.2.1
 omega
def ξ2Z (p : Prg) (c : CutS) (base : Nat) (r : Value) (w : World) : Prop :=
 (∃ (rs : RowS) (x : RowM), ξ0m p c rs ∧ r = .tuple #[rowV x, .int .i64 0] ∧ x.s = rs ∧ ξn w base (.slice x.tp x.terms.length x.tc) x.terms) ∨ ((∀ rs, ¬ ξ0m p c rs) ∧ ∃ e : Int, e ≠ 0 ∧ r = .tuple #[.agg rowZ, .int .i64 e])
theorem ξn.lower {w : World} {base base' : Nat} {v : Value} {l : List ξ8} (h : ξn w base v l) (hb : base' ≤ base) : ξn w base' v l := by
 refine ⟨?_, h.2⟩
 obtain ⟨h1, h2⟩ := h.1
 refine ⟨h1, ?_⟩
 rcases h2 with h2 | ⟨g, cap, cur, hv, hbg, r⟩
 ·exact .inl h2
 ·exact .inr ⟨g, cap, cur, hv, Nat.le_trans hb hbg, r⟩
structure ξ2h (w W : World) (bc b4 b6 : Nat) (cc : Array Value) (z : Int) (tv : Value) (ts : List ξ8) : Prop where
 g : Gr w W
 tc : ξ0 W bc cc
 t4 : ξ0 W b4 rowZ
 t6 : ξ0 W b6 #[.string ⟨cutName.toArray⟩, .int .i64 0, .int .i64 0, tv, .int .i64 z]
 tw : ξn W w.heap.size tv ts
 ne : ∀ b, tv.ownBlock = some b → b ≠ bc ∧ b ≠ b4 ∧ b ≠ b6
theorem ξ2h.grow {w W W' : World} {bc b4 b6 : Nat} {cc : Array Value} {z : Int} {tv : Value} {ts : List ξ8} (h : ξ2h w W bc b4 b6 cc z tv ts) (g : Gr W W') : ξ2h w W' bc b4 b6 cc z tv ts :=
 ⟨h.g.trans g, h.tc.grow g, h.t4.grow g, h.t6.grow g, h.tw.grow g, h.ne⟩
theorem ξ2h.putT {w W W1 : World} {bc b4 b6 : Nat} {cc : Array Value} {z : Int} {tv tv' : Value} {ts : List ξ8} {t : ξ8} (h : ξ2h w W bc b4 b6 cc z tv ts) (h6 : w.heap.size ≤ b6) (hx : bc ≠ b6 ∧ b4 ≠ b6)
  (h1 : ξn W1 w.heap.size tv' (ts ++ [t])) (hg : W.grownBy W1 tv.ownBlock) (hb : tv'.ownBlock = tv.ownBlock ∨ tv'.ownBlock = some W.heap.size) :
  (W1.cell? ⟨b6, 3, none⟩ = some tv ∧ W1.frozen? ⟨b6, 3, none⟩ = false) ∧ ξ2h w (W1.setCell ⟨b6, 3, none⟩ tv') bc b4 b6 cc z tv' (ts ++ [t]) := by
 have keep : ∀ b vs, ξ0 W b vs → (∀ g, tv.ownBlock = some g → g ≠ b) → W1.heap[b]? = W.heap[b]? := fun b vs hc hne => hg.block b hc.lt (fun e => hne b e.symm rfl)
 have c6 := ξE h.t6 (keep b6 _ h.t6 fun g hg => (h.ne g hg).2.2)
 have cc' := ξE h.tc (keep bc _ h.tc fun g hg => (h.ne g hg).1)
 have c4 := ξE h.t4 (keep b4 _ h.t4 fun g hg => (h.ne g hg).2.1)
 have hG1 : Gr w W1 := OwnL.gr h.tw.1 h.g hg
 have hu := ξx W1 b6 3 tv'
 have hne : ∀ g, tv'.ownBlock = some g → g ≠ bc ∧ g ≠ b4 ∧ g ≠ b6 := fun g hg' => by
  rcases hb with hb | hb
  ·exact h.ne g (hb ▸ hg')
  ·rw [hb] at hg'
   obtain rfl := Option.some.inj hg'
   have l1 := h.tc.lt
   have l2 := h.t4.lt
   have l3 := h.t6.lt
   exact ⟨by omega, by omega, by omega⟩
 refine ⟨⟨c6.at 3 rfl, ξ0.f c6 3⟩, ⟨Gr.set hG1 (by omega) _, cc'.upd hu hx.1, c4.upd hu hx.2, ?_, h1.same hu (by simp [World.setCell]) (ξ1g h1 fun g hg => (hne g hg).2.2) rfl rfl rfl, hne⟩⟩
 have := c6.set 3 tv'
 simpa using this
end Prf
end Go.Proofs.YtcjgimlcefhhmaaGreatDoor

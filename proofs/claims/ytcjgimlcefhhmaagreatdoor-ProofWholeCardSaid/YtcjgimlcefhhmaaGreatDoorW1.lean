/- Texts: Base Math Own Early Slc Erlb. -/
import Derived.WalkKit
import Derived.BigQuiet
import Derived.Deep.QuietTactic
import Derived.Lib.Hide
import Derived.WalkSpells
import Derived.Test.YtcjgimlcefhhmaaGreatDoorProg
import Derived.OwnWalk
set_option linter.unusedVariables false
set_option linter.unusedSimpArgs false
set_option maxRecDepth 100000
set_option maxHeartbeats 12800000
namespace Go.Proofs.YtcjgimlcefhhmaaGreatDoor
theorem ξ {p : Prop} (h : p) : Go.RowKit.Hid p := h
end Go.Proofs.YtcjgimlcefhhmaaGreatDoor
namespace Go.Proofs.YtcjgimlcefhhmaaGreatDoor
open Go.RowKit
def Gr (w w' : World) : Prop := Below w.heap.size w w'
theorem Gr.refl (w : World) : Gr w w := Below.refl _ _
theorem Gr.trans {a b c : World} (h : Gr a b) (k : Gr b c) : Gr a c := Below.trans h (Below.mono k h.size)
theorem Gr.drewN {a b : World} (h : Gr a b) (n : Nat) : Gr a (b.drewN n) := ⟨h.os, h.tape, h.output, h.size, h.block⟩
theorem Gr.drew {a b : World} (h : Gr a b) : Gr a b.drew := h.drewN 1
theorem Gr.size {a b : World} (h : Gr a b) : a.heap.size ≤ b.heap.size := Below.size h
theorem Gr.alloc {a b : World} (h : Gr a b) (o : Obj) : Gr a (b.alloc o) := Below.alloc h h.size o
theorem Gr.cell {a b : World} (h : Gr a b) {p : Addr} {v : Value} (hc : a.cell? p = some v) : b.cell? p = some v := by
 rw [Below.cell h (World.block_lt_of_cell? a _ hc)]; exact hc
def Ret (w : World) (S : Value → World → Prop) (e : Ending) (w' : World) : Prop := ∃ v, e = .returned v ∧ Gr w w' ∧ S v w'
theorem Ret.mk {w w' : World} {S : Value → World → Prop} {v : Value} (hg : Gr w w') (hs : S v w') : Ret w S (.returned v) w' := ⟨v, rfl, hg, hs⟩
section region
variable {P : Program} {ops : Array Oper} {md : Region.Mode} {Q : Exit → Act → World → Prop}
def isStore (o : Oper) : Bool := match o.op with
 | .store .. | .insert .. | .mapUpdate .. | .entryStore .. => true
 | _ => false
def relOf (o : Oper) (w w' : World) : Prop := isStore o = false → Gr w w'
theorem relOf.refl (o : Oper) (w : World) : relOf o w w := fun _ => Gr.refl w
def gOp (P : Program) (ops : Array Oper) (Q : Exit → Act → World → Prop) (i : Nat) (K : Act → World → Prop) (a : Act) (w : World) : Prop :=
 wpOp P ops Q i (fun a' w' => (∀ o, ops[i]? = some o → relOf o w w') ∧ K a' w') a w
def wpAnyG (P : Program) (md : Region.Mode) (ops : Array Oper) (Q : Exit → Act → World → Prop) : Nat → Array Bool → Act → World → Prop
 | 0, listed, a, w => Region.ready md ops listed = [] ∧ Q .normal a w
 | fuel + 1, listed, a, w =>
  (Region.ready md ops listed = [] → Q .normal a w) ∧
  ∀ i ∈ Region.ready md ops listed, gOp P ops Q i (wpAnyG P md ops Q fuel (listed.setIfInBounds i true)) a w
theorem ξ0u : ∀ (fuel : Nat) (listed : Array Bool) (a : Act) (w : World), wpAnyG P md ops Q fuel listed a w → wpAny P md ops Q fuel listed a w
 | 0, _, _, _, h => h
 | fuel + 1, _, _, _, h => ⟨h.1, fun i hi => wpOp_mono (fun a' w' hk => ξ0u fuel _ a' w' hk.2) (h.2 i hi)⟩
def pureOp (o : Oper) : Bool := match o.op with
 | .extract (.tmp _) _ => true
 | _ => false
theorem pureOp.any {P : Program} {ρ : Operand → Value} {o : Oper} (h : pureOp o = true) {v : Value} {w : World} (hv : (execOp ρ o).run P w = .ok (.value v) w) (w' : World) : (execOp ρ o).run P w' = .ok (.value v) w' := by
 unfold pureOp at h
 split at h
 ·rename_i t i he
  unfold execOp at hv ⊢
  simp only [he] at hv ⊢
  unfold Instr.extract at hv ⊢
  split at hv <;> simp_all [go_sem]
  split at hv <;> simp_all [go_sem]
 ·cases h
def ξk (P : Program) (ops : Array Oper) (o : Oper) (v : Value) (a : Act) (w : World) : Prop :=
 (Region.wanted o (yielded ops a.tmps) = true ∧ ∀ w', Gr w w' ∨ pureOp o = true → (execOp a.eval o).run P w' = .ok (.value v) w') ∨
 (Region.wanted o (yielded ops a.tmps) = false ∧ v = undef)
theorem ξk.mk {o : Oper} {v : Value} {a : Act} {w : World} (hw : Region.wanted o (yielded ops a.tmps) = true) (hv : ∀ w', Gr w w' → (execOp a.eval o).run P w' = .ok (.value v) w') : ξk P ops o v a w :=
 .inl ⟨hw, fun w' h => h.elim (hv w') fun h => pureOp.any h (hv w (Gr.refl w)) w'⟩
theorem ξk.grow {o : Oper} {v : Value} {a : Act} {w w' : World} (hy : ξk P ops o v a w) (hg : Gr w w' ∨ pureOp o = true) : ξk P ops o v a w' := by
 rcases hy with ⟨h1, h2⟩ | h
 ·exact .inl ⟨h1, fun w'' h' => h2 w'' (h'.elim (fun h' => hg.imp (fun g => g.trans h') id) .inr)⟩
 ·exact .inr h
theorem ξk.of_same {o : Oper} {v : Value} {a a' : Act} {w : World} (hy : ξk P ops o v a w) (he : execOp a'.eval o = execOp a.eval o)
  (hw : Region.wanted o (yielded ops a'.tmps) = Region.wanted o (yielded ops a.tmps)) : ξk P ops o v a' w := by
 unfold ξk at *
 rw [he, hw]
 exact hy
theorem ξk.gOp {i : Nat} {o : Oper} {v : Value} {a : Act} {w : World} (hi : ops[i]? = some o) (hy : ξk P ops o v a w)
  {K : Act → World → Prop} (h : K (a.put o.dst v) w) : gOp P ops Q i K a w := by
 unfold Proofs.YtcjgimlcefhhmaaGreatDoor.gOp wpOp
 simp only [hi]
 have hr : ∀ o_1 : Oper, some o = some o_1 → relOf o_1 w w := fun _ _ => relOf.refl _ _
 rcases hy with ⟨hw, hv⟩ | ⟨hw, rfl⟩
 ·simp only [hw, if_true, Oper.wp, hv w (.inl (Gr.refl w)), Oper.upon]; exact .inl ⟨hr, h⟩
 ·simp only [hw, Bool.false_eq_true, if_false]; exact ⟨hr, h⟩
theorem ξ5f {j : Nat} {oi oj : Oper} {v : Value} (hj : ops[j]? = some oj) (hap : oi.apart ops oj = true) (hst : isStore oj = false ∨ pureOp oi = true)
  (hsi : ∀ cs b, oi.op ≠ .select cs b) (hsj : ∀ cs b, oj.op ≠ .select cs b)
  (hQ : ∀ c a d v w, Q (.panic c) (a.put d v) w → Q (.panic c) a w) {K : Act → World → Prop} {a : Act} {w : World}
  (hy : ξk P ops oi v a w) (h : gOp P ops Q j K (a.put oi.dst v) w) :
  gOp P ops Q j (fun a' w' => ξk P ops oi v a' w' ∧ K (a'.put oi.dst v) w') a w := by
 obtain ⟨h1, h2, h3⟩ := Oper.apart_spec hap
 have keep : ∀ (a : Act) (w : World), ξk P ops oi v a w → ∀ u, ξk P ops oi v (a.put oj.dst u) w := fun a w hy u =>
  hy.of_same (execOp_put oi hsi a oj.dst u h3) (wanted_put oi a oj.dst u h3)
 have keepD : ∀ d w, ξk P ops oi v a w → ξk P ops oi v { a with defers := d :: a.defers } w := fun d w hy => hy.of_same rfl rfl
 unfold gOp wpOp at *
 simp only [hj] at *
 rw [wanted_put oj a oi.dst v h1] at h
 split
 ·rename_i hw
  simp only [hw, if_true] at h
  rcases h with h | ⟨hasks, hlets⟩
  case inr => exact .inr ⟨by unfold Oper.asks at *; rw [execOp_put oj hsj a oi.dst v h1] at hasks; exact hasks, hlets⟩
  refine .inl ?_
  unfold Oper.wp at *
  rw [execOp_put oj hsj a oi.dst v h1] at h
  generalize (execOp a.eval oj).run P w = r at *
  cases r with
  | ok n w' =>
   cases n <;> simp only [Oper.upon] at h ⊢
   case value u => exact ⟨h.1, keep a w' (hy.grow (hst.imp (h.1 oj rfl) id)) u, by rw [← Act.put_comm a v u h2]; exact h.2⟩
   case skip => exact ⟨h.1, keep a w' (hy.grow (hst.imp (h.1 oj rfl) id)) _, by rw [← Act.put_comm a v undef h2]; exact h.2⟩
   case defer d =>
    refine ⟨h.1, keep _ w' (keepD d w' (hy.grow (hst.imp (h.1 oj rfl) id))) _, ?_⟩
    rw [← Act.put_comm _ v undef h2, ← Act.put_defers]
    exact h.2
   case enter f args =>
    refine Calls.mono h fun e w'' he => ?_
    cases e with
    | returned u => exact ⟨he.1, keep a w'' (hy.grow (hst.imp (he.1 oj rfl) id)) u, by rw [← Act.put_comm a v u h2]; exact he.2⟩
    | panicked c => exact hQ _ _ _ _ _ he
    | outgrown => exact he
   case row row args => exact Rows.mono h fun u w'' he => ⟨he.1, keep a w'' (hy.grow (hst.imp (he.1 oj rfl) id)) u, by rw [← Act.put_comm a v u h2]; exact he.2⟩
  | halt x w' =>
   cases x <;> simp only [Oper.upon] at h ⊢
   case panic u => exact hQ _ _ _ _ _ h
 ·rename_i hw
  simp only [hw] at h
  exact ⟨h.1, keep a w (hy) _, by rw [← Act.put_comm a v undef h2]; exact h.2⟩
theorem ξ4A {i : Nat} {a : Act} {w : World} {K K' : Act → World → Prop} (h : ∀ a w, K a w → K' a w)
  (hh : gOp P ops Q i K a w) : gOp P ops Q i K' a w := wpOp_mono (fun a w hk => ⟨hk.1, h a w hk.2⟩) hh
def ξB (md : Region.Mode) (ops : Array Oper) (listed : Array Bool) : Prop :=
 ∀ j o, ops[j]? = some o → listed.getD j false = true → ∀ e ∈ o.after, Region.binds md e = true → listed.getD e.on false = true
theorem ξB.set {listed : Array Bool} {i : Nat} (hc : ξB md ops listed) (hr : i ∈ Region.ready md ops listed) : ξB md ops (listed.setIfInBounds i true) := by
 intro j o hj hl e he hb
 refine getD_set_true ?_
 obtain ⟨_, oi, hoi, hall⟩ := mem_ready.1 hr
 by_cases hji : i = j
 ·subst hji; rw [hj] at hoi; cases hoi; exact hall e he hb
 ·rw [getD_set_ne false hji] at hl; exact hc j o hj hl e he hb
inductive ξA (md : Region.Mode) (ops : Array Oper) (i : Nat) : Nat → Prop
 | base {j : Nat} {o : Oper} {e : Edge} (hj : ops[j]? = some o) (he : e ∈ o.after) (hb : Region.binds md e = true) (h : e.on = i) : ξA md ops i j
 | step {j : Nat} {o : Oper} {e : Edge} (hj : ops[j]? = some o) (he : e ∈ o.after) (hb : Region.binds md e = true) (h : ξA md ops i e.on) : ξA md ops i j
theorem ξA.listed {listed : Array Bool} {i j : Nat} (hc : ξB md ops listed) (h : ξA md ops i j) (hl : listed.getD j false = true) : listed.getD i false = true := by
 induction h with
 | base hj he hb h => subst h; exact hc _ _ hj hl _ he hb
 | step hj he hb h ih => exact ih (hc _ _ hj hl _ he hb)
theorem ξA.not_ready {listed : Array Bool} {i j : Nat} (hc : ξB md ops listed) (hi : i ∈ Region.ready md ops listed) (hj : j ∈ Region.ready md ops listed) : ¬ ξA md ops i j := by
 intro h
 obtain ⟨hu, _⟩ := mem_ready.1 hi
 obtain ⟨_, o', hoj, hall⟩ := mem_ready.1 hj
 have key : listed.getD i false = true := by
  cases h with
  | base hj he hb h => rw [hj] at hoj; cases hoj; subst h; exact hall _ he hb
  | step hj he hb h => rw [hj] at hoj; cases hoj; exact h.listed hc (hall _ he hb)
 rcases Nat.lt_or_ge i listed.size with h' | h'
 ·simp [h'] at hu key; rw [hu] at key; cases key
 ·simp [Array.getElem?_eq_none h'] at hu
theorem ξO {i : Nat} {oi : Oper} {v : Value} (hi : ops[i]? = some oi) (hsel : ∀ (j : Nat) (o : Oper) cs b, ops[j]? = some o → o.op ≠ .select cs b)
  (hQ : ∀ c a d v w, Q (.panic c) (a.put d v) w → Q (.panic c) a w) :
  ∀ (fuel : Nat) (listed : Array Bool) (a : Act) (w : World), ξB md ops listed →
   (∀ j oj, ops[j]? = some oj → j ≠ i → listed.getD j true = false → ¬ ξA md ops i j → oi.apart ops oj = true ∧ (isStore oj = false ∨ pureOp oi = true)) →
   i ∈ Region.ready md ops listed → ξk P ops oi v a w →
   wpAnyG P md ops Q fuel (listed.setIfInBounds i true) (a.put oi.dst v) w → wpAnyG P md ops Q (fuel + 1) listed a w := by
 intro fuel
 induction fuel with
 | zero =>
  intro listed a w _ _ hr hy H
  refine ⟨fun h => (by rw [h] at hr; cases hr), fun j hj => ?_⟩
  by_cases hji : j = i
  ·subst hji; exact hy.gOp hi H
  ·have := ready_mono hj hji
   rw [H.1] at this
   cases this
 | succ fuel ih =>
  intro listed a w hc hfree hr hy H
  refine ⟨fun h => (by rw [h] at hr; cases hr), fun j hj => ?_⟩
  by_cases hji : j = i
  ·subst hji; exact hy.gOp hi H
  ·have h1 := H.2 j (ready_mono hj hji)
   obtain ⟨hjun, oj, hoj, hall⟩ := mem_ready.1 hj
   obtain ⟨hap, hst⟩ := hfree j oj hoj hji hjun (ξA.not_ready hc hr hj)
   have h2 := ξ5f hoj hap hst (fun cs b => hsel i oi cs b hi) (fun cs b => hsel j oj cs b hoj) hQ hy h1
   have hfree' : ∀ k ok, ops[k]? = some ok → k ≠ i → (listed.setIfInBounds j true).getD k true = false →
     ¬ ξA md ops i k → oi.apart ops ok = true ∧ (isStore ok = false ∨ pureOp oi = true) := fun k ok hk hki hun hno => by
    refine hfree k ok hk hki ?_ hno
    by_cases hjk : j = k
    ·subst hjk; exact hjun
    ·rw [getD_set_ne true hjk] at hun; exact hun
   refine ξ4A (fun a' w' h3 => ih (listed.setIfInBounds j true) a' w' (hc.set hj) hfree' (ready_mono hr (Ne.symm hji)) h3.1 ?_) h2
   rw [Array.setIfInBounds_comm _ _ hji]
   exact h3.2
def wpE (P : Program) (ops : Array Oper) (Q : Exit → Act → World → Prop) : List (Nat × Bool) → Act → World → Prop
 | [], a, w => Q .normal a w
 | (i, r) :: rest, a, w => ∃ o, ops[i]? = some o ∧
   if Region.wanted o (yielded ops a.tmps) = true then
    (if r = true then ∃ v, (∀ w', Gr w w' → (execOp a.eval o).run P w' = .ok (.value v) w') ∧ wpE P ops Q rest (a.put o.dst v) w
     else Oper.wp P o a w (fun a' w' => relOf o w w' ∧ wpE P ops Q rest a' w') Q)
   else wpE P ops Q rest (a.put o.dst undef) w
def waitsGo (md : Region.Mode) (i : Nat) : List Oper → Array Bool → Array Bool
 | [], acc => acc
 | o :: l, acc => waitsGo md i l (acc.push (o.after.any fun e => Region.binds md e && (e.on == i || acc.getD e.on false)))
theorem ξ0G {i : Nat} : ∀ (l : List Oper) (acc : Array Bool), (∀ j, l[j]? = ops[acc.size + j]?) → (∀ j, acc.getD j false = true → ξA md ops i j) →
  ∀ j, (waitsGo md i l acc).getD j false = true → ξA md ops i j
 | [], _, _, hacc => hacc
 | o :: l, acc, hl, hacc => by
  refine ξ0G l _ (fun j => ?_) (fun j hj => ?_)
  ·have := hl (j + 1)
   simpa [Nat.add_assoc, Nat.add_comm 1 j] using this
  ·by_cases h : j = acc.size
   ·subst h
    simp only [Array.getD_eq_getD_getElem?, Array.getElem?_push_size, Option.getD_some] at hj
    obtain ⟨e, he, hb⟩ := Array.any_eq_true'.1 hj
    simp only [Bool.and_eq_true, Bool.or_eq_true, beq_iff_eq] at hb
    have h0 : ops[acc.size]? = some o := by simpa using (hl 0).symm
    rcases hb.2 with h | h
    ·exact .base h0 he hb.1 h
    ·exact .step h0 he hb.1 (hacc _ (by simpa [Array.getD_eq_getD_getElem?] using h))
   ·refine hacc j ?_
    simpa [Array.getD_eq_getD_getElem?, Array.getElem?_push, h] using hj
def freeG (md : Region.Mode) (ops : Array Oper) (listed : Array Bool) (i : Nat) : Bool :=
 match ops[i]? with
 | none => false
 | some oi =>
  (List.range ops.size).all fun j => j == i || listed.getD j true || match ops[j]? with
   | some oj => (oi.apart ops oj && (!isStore oj || pureOp oi)) || (waitsGo md i ops.toList #[]).getD j false
   | none => true
theorem ξ0R {i : Nat} {oi : Oper} {listed : Array Bool} (hi : ops[i]? = some oi) (h : freeG md ops listed i = true) (j : Nat) (oj : Oper)
  (hj : ops[j]? = some oj) (hne : j ≠ i) (hun : listed.getD j true = false) (hno : ¬ ξA md ops i j) :
  oi.apart ops oj = true ∧ (isStore oj = false ∨ pureOp oi = true) := by
 simp only [freeG, hi, List.all_eq_true, List.mem_range] at h
 have h1 := h j (Array.getElem?_eq_some_iff.1 hj).1
 simp only [hj, Bool.or_eq_true, beq_iff_eq, hne, false_or, hun, Bool.false_eq_true] at h1
 rcases h1 with h1 | h1
 ·simpa using h1
 ·exact absurd (ξ0G (md := md) (ops := ops) (i := i) ops.toList #[] (by simp) (by simp) j h1) hno
def eagerB (md : Region.Mode) (ops : Array Oper) : List (Nat × Bool) → Array Bool → Bool
 | [], listed => (Region.ready md ops listed).isEmpty
 | (i, r) :: rest, listed => (if r then (Region.ready md ops listed).contains i && freeG md ops listed i else Region.ready md ops listed == [i]) && eagerB md ops rest (listed.setIfInBounds i true)
theorem ξM (hs : Region.noSelect ops = true) (hQ : ∀ c a d v w, Q (.panic c) (a.put d v) w → Q (.panic c) a w) :
  ∀ (l : List (Nat × Bool)) (listed : Array Bool) (a : Act) (w : World), ξB md ops listed → eagerB md ops l listed = true → wpE P ops Q l a w → wpAnyG P md ops Q l.length listed a w
 | [], listed, a, w, _, hB, h => ⟨by simpa [eagerB] using hB, h⟩
 | (i, true) :: l, listed, a, w, hc, hB, h => by
  simp only [eagerB, if_true, Bool.and_eq_true] at hB
  obtain ⟨⟨hr, hf⟩, hB'⟩ := hB
  obtain ⟨o, ho, h⟩ := h
  have hr' : i ∈ Region.ready md ops listed := by simpa using hr
  by_cases hw : Region.wanted o (yielded ops a.tmps) = true
  ·rw [if_pos hw, if_pos rfl] at h
   obtain ⟨v, hv, h⟩ := h
   exact ξO ho (Region.noSelect_spec hs) hQ l.length listed a w hc (ξ0R ho hf) hr' (.mk hw hv) (ξM hs hQ l _ _ _ (hc.set hr') hB' h)
  ·rw [if_neg hw] at h
   exact ξO ho (Region.noSelect_spec hs) hQ l.length listed a w hc (ξ0R ho hf) hr' (.inr ⟨by simpa using hw, rfl⟩) (ξM hs hQ l _ _ _ (hc.set hr') hB' h)
 | (i, false) :: l, listed, a, w, hc, hB, h => by
  simp only [eagerB, Bool.false_eq_true, if_false, Bool.and_eq_true, beq_iff_eq] at hB
  obtain ⟨hr, hB'⟩ := hB
  obtain ⟨o, ho, h⟩ := h
  refine ⟨fun h0 => (by rw [hr] at h0; cases h0), fun j hj => ?_⟩
  rw [hr, List.mem_singleton] at hj
  subst hj
  have hc' : ξB md ops (listed.setIfInBounds j true) := hc.set (by rw [hr]; simp)
  unfold gOp wpOp
  simp only [ho]
  by_cases hw : Region.wanted o (yielded ops a.tmps) = true
  ·rw [if_pos hw, if_neg (by simp)] at h
   rw [if_pos hw]
   refine .inl (Oper.wp_mono (fun a' w' hk => ⟨fun o' ho' => ?_, ξM hs hQ l _ _ _ hc' hB' hk.2⟩) h)
   cases ho'; exact hk.1
  ·rw [if_neg hw] at h
   rw [if_neg hw]
   exact ⟨fun _ _ => relOf.refl _ _, ξM hs hQ l _ _ _ hc' hB' h⟩
theorem ξL {id : Nat} {a : Act} {w : World} (order : List (Nat × Bool)) (hm : P.follows .mixedOrders = true) (hs : Region.noSelect ops = true)
  (hn : order.length = ops.size) (hB : eagerB .any ops order (Array.replicate ops.size false) = true) (hQ : ∀ c a d v w, Q (.panic c) (a.put d v) w → Q (.panic c) a w)
  (h : wpE P ops Q order a w.drew) : (Code.region id ops true).wp P Q a w := by
 refine wp_region_any hm (ξ0u _ _ _ _ ?_)
 have := ξM (md := .any) hs hQ order (Array.replicate ops.size false) a w.drew (fun j o _ hl => by simp [Array.getElem?_replicate] at hl; split at hl <;> simp at hl) hB h
 rw [hn] at this
 exact this
end region
section steps
variable {P : Program} {ops : Array Oper} {Q : Exit → Act → World → Prop} {i : Nat} {rest : List (Nat × Bool)} {a : Act} {w : World} {o : Oper}
theorem ξ9 (h : Q .normal a w) : wpE P ops Q [] a w := h
theorem ξ4C (ho : ops[i]? = some o) (hw : Region.wanted o (yielded ops a.tmps) = true)
  (h : ∀ K : Act → World → Prop, (∀ a w, wpE P ops Q rest a w → K a w) → ∃ v, (∀ w', Gr w w' → (execOp a.eval o).run P w' = .ok (.value v) w') ∧ K (a.put o.dst v) w) : wpE P ops Q ((i, true) :: rest) a w :=
 ⟨o, ho, by rw [if_pos hw, if_pos rfl]; exact h _ (fun _ _ h => h)⟩
theorem ξ2 {wb : World} (hb : Gr wb w) (ho : ops[i]? = some o) (hw : Region.wanted o (yielded ops a.tmps) = true) {v : Value} (hv : ∀ w', Gr wb w' → (execOp a.eval o).run P w' = .ok (.value v) w')
  (h : ∀ K : Act → World → Prop, (∀ a w, wpE P ops Q rest a w → K a w) → K (a.put o.dst v) w) : wpE P ops Q ((i, true) :: rest) a w :=
 ⟨o, ho, by rw [if_pos hw, if_pos rfl]; exact ⟨v, fun w' hg => hv w' (hb.trans hg), h _ (fun _ _ h => h)⟩⟩
theorem ξi (ho : ops[i]? = some o) (hw : Region.wanted o (yielded ops a.tmps) = true)
  (h : ∀ K : Act → World → Prop, (∀ a w, wpE P ops Q rest a w → K a w) → Oper.wp P o a w (fun a' w' => relOf o w w' ∧ K a' w') Q) : wpE P ops Q ((i, false) :: rest) a w :=
 ⟨o, ho, by rw [if_pos hw, if_neg (by simp)]; exact h _ (fun _ _ h => h)⟩
theorem ξ0g {r : Bool} (ho : ops[i]? = some o) (hw : Region.wanted o (yielded ops a.tmps) = false) (h : wpE P ops Q rest (a.put o.dst undef) w) : wpE P ops Q ((i, r) :: rest) a w :=
 ⟨o, ho, by rw [if_neg (by simp [hw])]; exact h⟩
end steps
end Go.Proofs.YtcjgimlcefhhmaaGreatDoor
namespace Go.Proofs.YtcjgimlcefhhmaaGreatDoor
def BB : Nat := 4294967296
theorem ξ5 : BB = 4294967296 := rfl
theorem ξv : 0 < BB := by unfold BB; omega
def nval : List Nat → Nat
 | [] => 0
 | d :: l => d + BB * nval l
def digs (n : Nat) : List Nat := if h : n = 0 then [] else n % BB :: digs (n / BB)
termination_by n
decreasing_by exact Nat.div_lt_self (by omega) (by unfold BB; omega)
def Dig (l : List Nat) : Prop := ∀ x, x ∈ l → x < BB
def gd (l : List Nat) (i : Nat) : Nat := l.getD i 0
theorem Dig.nil : Dig [] := fun _ h => by cases h
theorem Dig.cons {d : Nat} {l : List Nat} (hd : d < BB) (h : Dig l) : Dig (d :: l) := fun x hx => by
 rcases List.mem_cons.1 hx with rfl | hx
 ·exact hd
 ·exact h x hx
theorem Dig.head {d : Nat} {l : List Nat} (h : Dig (d :: l)) : d < BB := h d (by simp)
theorem Dig.tail {d : Nat} {l : List Nat} (h : Dig (d :: l)) : Dig l := fun x hx => h x (by simp [hx])
theorem Dig.append {l m : List Nat} (h : Dig l) (k : Dig m) : Dig (l ++ m) := fun x hx => by
 rcases List.mem_append.1 hx with hx | hx
 ·exact h x hx
 ·exact k x hx
theorem Dig.take {l : List Nat} (h : Dig l) (n : Nat) : Dig (l.take n) := fun x hx => h x (List.mem_of_mem_take hx)
theorem Dig.drop {l : List Nat} (h : Dig l) (n : Nat) : Dig (l.drop n) := fun x hx => h x (List.mem_of_mem_drop hx)
theorem Dig.gd {l : List Nat} (h : Dig l) (i : Nat) : gd l i < BB := by
 unfold Proofs.YtcjgimlcefhhmaaGreatDoor.gd
 rw [List.getD_eq_getElem?_getD]
 rcases Nat.lt_or_ge i l.length with hi | hi
 ·rw [List.getElem?_eq_getElem hi]; exact h _ (List.getElem_mem hi)
 ·rw [List.getElem?_eq_none hi]; exact ξv
theorem ξ2J {l : List Nat} {k : Nat} (h : k < l.length) : gd l k = l[k] := by simp [gd, List.getD, List.getElem?_eq_getElem h]
theorem ξ45 {l : List Nat} {k : Nat} (h : l.length ≤ k) : gd l k = 0 := by simp [gd, List.getD, List.getElem?_eq_none h]
theorem ξF : digs 0 = [] := by rw [digs]; simp
theorem ξ1T {n : Nat} (h : n ≠ 0) : digs n = n % BB :: digs (n / BB) := by rw [digs]; simp [h]
theorem ξs {n : Nat} : digs n = [] ↔ n = 0 := by
 constructor
 ·intro h
  by_cases hn : n = 0
  ·exact hn
  ·rw [ξ1T hn] at h; cases h
 ·rintro rfl; exact ξF
theorem ξ4 (n : Nat) : nval (digs n) = n := by
 induction n using Nat.strongRecOn with
 | _ n ih =>
  by_cases h : n = 0
  ·subst h; simp [ξF, nval]
  ·rw [ξ1T h, nval, ih _ (Nat.div_lt_self (by omega) (by unfold BB; omega))]
   exact Nat.mod_add_div n BB
theorem ξb2 {m n : Nat} (h : digs m = digs n) : m = n := by
 rw [← ξ4 m, ← ξ4 n, h]
theorem Dig.digs (n : Nat) : Dig (digs n) := by
 induction n using Nat.strongRecOn with
 | _ n ih =>
  by_cases h : n = 0
  ·subst h; rw [ξF]; exact Dig.nil
  ·rw [ξ1T h]; exact Dig.cons (Nat.mod_lt _ ξv) (ih _ (Nat.div_lt_self (by omega) (by unfold BB; omega)))
theorem ξ2V {d n : Nat} (hd : d < BB) (h : d ≠ 0 ∨ n ≠ 0) : Proofs.YtcjgimlcefhhmaaGreatDoor.digs (d + BB * n) = d :: Proofs.YtcjgimlcefhhmaaGreatDoor.digs n := by
 have hB := ξv
 have hne : d + BB * n ≠ 0 := by
  rcases h with h | h
  ·omega
  ·have := Nat.mul_pos hB (Nat.pos_of_ne_zero h); omega
 rw [ξ1T hne, Nat.add_mul_mod_self_left, Nat.mod_eq_of_lt hd, Nat.add_mul_div_left _ _ hB, Nat.div_eq_of_lt hd, Nat.zero_add]
def trimL (l : List Nat) : List Nat := digs (nval l)
theorem ξN (l : List Nat) (h : Dig l) : (trimL l).length ≤ l.length := by
 unfold trimL
 induction l with
 | nil => simp [nval, ξF]
 | cons d l ih =>
  have hd := h.head
  by_cases h0 : d ≠ 0 ∨ nval l ≠ 0
  ·rw [nval, ξ2V hd h0]; simp; exact ih h.tail
  ·have : d = 0 := by omega
   have h2 : nval l = 0 := by omega
   simp [nval, this, h2, ξF]
theorem ξ4q (l m : List Nat) : nval (l ++ m) = nval l + BB ^ l.length * nval m := by
 induction l with
 | nil => simp [nval]
 | cons d l ih => simp [nval, ih, Nat.pow_succ, Nat.mul_add, Nat.mul_assoc, Nat.mul_comm, Nat.mul_left_comm, Nat.add_assoc]
theorem ξ25 (l : List Nat) (d : Nat) : nval (l ++ [d]) = nval l + BB ^ l.length * d := by
 rw [ξ4q]; simp [nval]
theorem ξ1a (l : List Nat) (h : Dig l) : nval l < BB ^ l.length := by
 induction l with
 | nil => simp [nval]
 | cons d l ih =>
  have h1 := h.head
  have h2 := ih h.tail
  simp only [nval, List.length_cons, Nat.pow_succ]
  have h3 : BB * (nval l + 1) ≤ BB * BB ^ l.length := Nat.mul_le_mul_left _ h2
  rw [Nat.mul_add] at h3
  rw [Nat.mul_comm (BB ^ l.length)]
  omega
theorem ξ1V (n : Nat) : nval (List.replicate n 0) = 0 := by
 induction n with
 | zero => rfl
 | succ n ih => simp [List.replicate_succ, nval, ih]
theorem ξ57 (l : List Nat) (d : Nat) (h : Dig l) (hd : d < BB) (h0 : d ≠ 0) : trimL (l ++ [d]) = l ++ [d] := by
 unfold trimL
 induction l with
 | nil => simp only [List.nil_append, nval, Nat.mul_zero, Nat.add_zero]; rw [show d = d + BB * 0 from by omega, ξ2V hd (.inl h0), ξF]; rfl
 | cons x l ih =>
  have hx := h.head
  have hne : nval (l ++ [d]) ≠ 0 := by
   rw [ξ25]
   have := Nat.mul_pos (Nat.pow_pos (n := l.length) ξv) (Nat.pos_of_ne_zero h0)
   omega
  rw [List.cons_append, nval, ξ2V hx (.inr hne), ih h.tail]
theorem ξ2X (l : List Nat) : trimL (l ++ [0]) = trimL l := by
 unfold trimL; rw [ξ25]; simp
theorem ξh {n k : Nat} (h : n < BB ^ k) : (digs n).length ≤ k := by
 induction k generalizing n with
 | zero => simp at h; subst h; simp [ξF]
 | succ k ih =>
  by_cases h0 : n = 0
  ·subst h0; simp [ξF]
  ·rw [ξ1T h0, List.length_cons]
   have : n / BB < BB ^ k := by
    rw [Nat.div_lt_iff_lt_mul ξv]; rw [Nat.pow_succ] at h; exact h
   have := ih this
   omega
theorem ξc {n k : Nat} (h : (digs n).length ≤ k) : n < BB ^ k := by
 have h1 := ξ1a (digs n) (Dig.digs n)
 rw [ξ4] at h1
 exact Nat.lt_of_lt_of_le h1 (Nat.pow_le_pow_right ξv h)
theorem ξ5w (l : List Nat) (k : Nat) (h : k < l.length) : nval (l.take (k + 1)) = nval (l.take k) + BB ^ k * gd l k := by
 rw [List.take_succ_eq_append_getElem h, ξ25, List.length_take, Nat.min_eq_left (by omega)]
 simp [gd, List.getD, List.getElem?_eq_getElem h]
theorem ξy (l : List Nat) (k : Nat) : nval (l.take (k + 1)) = nval (l.take k) + BB ^ k * gd l k := by
 rcases Nat.lt_or_ge k l.length with h | h
 ·exact ξ5w l k h
 ·rw [List.take_of_length_le (by omega), List.take_of_length_le (by omega)]
  simp [gd, List.getD, List.getElem?_eq_none h]
theorem ξ8L (l : List Nat) (k : Nat) : nval l = nval (l.take k) + BB ^ (min k l.length) * nval (l.drop k) := by
 have := ξ4q (l.take k) (l.drop k)
 rw [List.take_append_drop, List.length_take] at this
 exact this
def cmpZ (a b : Int) : Int := if a < b then -1 else if a = b then 0 else 1
theorem ξ7e {n : Nat} (h : digs n ≠ []) : (digs n).getLast h ≠ 0 := by
 induction n using Nat.strongRecOn with
 | _ n ih =>
  have hn : n ≠ 0 := fun e => h (by rw [e]; exact ξF)
  have hd : digs n = n % BB :: digs (n / BB) := ξ1T hn
  by_cases h2 : digs (n / BB) = []
  ·have h3 : n / BB = 0 := ξs.1 h2
   simp only [hd, h2, List.getLast_singleton]
   intro h4
   have := Nat.mod_add_div n BB
   rw [h3, h4] at this
   simp at this; omega
  ·simp only [hd]
   rw [List.getLast_cons h2]
   exact ih _ (Nat.div_lt_self (by omega) (by unfold BB; omega)) h2
theorem ξ4f (l : List Nat) (h : Dig l) : trimL l = l ↔ (l = [] ∨ gd l (l.length - 1) ≠ 0) := by
 rcases List.eq_nil_or_concat l with rfl | ⟨m, d, rfl⟩
 ·simp [trimL, nval, ξF]
 ·have hm : Dig m := fun x hx => h x (by simp [hx])
  have hd : d < BB := h d (by simp)
  have e1 : gd (m ++ [d]) ((m ++ [d]).length - 1) = d := by simp [gd, List.getD]
  rw [List.concat_eq_append, e1]
  by_cases h0 : d = 0
  ·subst h0
   rw [ξ2X]
   have := ξN m hm
   constructor
   ·intro e
    have := congrArg List.length e
    simp at this; omega
   ·simp
  ·rw [ξ57 m d hm hd h0]; simp [h0]
theorem ξV (l : List Nat) (k : Nat) : nval (l.drop k) = gd l k + BB * nval (l.drop (k + 1)) := by
 rcases Nat.lt_or_ge k l.length with h | h
 ·rw [List.drop_eq_getElem_cons h, nval, ξ2J h]
 ·rw [List.drop_eq_nil_of_le h, List.drop_eq_nil_of_le (by omega), ξ45 h]; simp [nval]
theorem ξ0B (l : List Nat) (k : Nat) : nval l = nval (l.take k) + BB ^ k * nval (l.drop k) := by
 rcases Nat.lt_or_ge k l.length with h | h
 ·have := ξ8L l k
  rwa [Nat.min_eq_left (by omega)] at this
 ·rw [List.drop_eq_nil_of_le h, List.take_of_length_le h]; simp [nval]
theorem ξ0r {l : List Nat} (h : Dig l) (k : Nat) : nval (l.take k) < BB ^ k := by
 refine Nat.lt_of_lt_of_le (ξ1a _ (h.take k)) (Nat.pow_le_pow_right ξv ?_)
 rw [List.length_take]; omega
theorem ξ4M {la lb : List Nat} (ha : Dig la) {k : Nat} (h : nval (la.drop k) < nval (lb.drop k)) : nval la < nval lb := by
 rw [ξ0B la k, ξ0B lb k]
 have h1 := ξ0r ha k
 have h2 : BB ^ k * (nval (la.drop k) + 1) ≤ BB ^ k * nval (lb.drop k) := Nat.mul_le_mul_left _ h
 rw [Nat.mul_add] at h2
 omega
theorem ξ2G {la lb : List Nat} (ha : Dig la) (hb : Dig lb) {k : Nat} (h : nval (la.drop (k + 1)) = nval (lb.drop (k + 1))) (hd : gd la k < gd lb k) : nval la < nval lb := by
 refine ξ4M ha (k := k) ?_
 rw [ξV la k, ξV lb k, h]; omega
theorem ξ7u {la lb : List Nat} {k : Nat} (h : nval (la.drop (k + 1)) = nval (lb.drop (k + 1))) (hd : gd la k = gd lb k) : nval (la.drop k) = nval (lb.drop k) := by
 rw [ξV la k, ξV lb k, h, hd]
theorem ξ3L {a b : Nat} (h : (digs a).length < (digs b).length) : a < b := by
 have h1 : a < BB ^ (digs a).length := ξc (Nat.le_refl _)
 have h2 : ¬ b < BB ^ (digs a).length := fun h3 => by have := ξh h3; omega
 omega
theorem ξ5x {a b : Nat} (h : a < b) : cmpZ a b = -1 := by unfold cmpZ; rw [if_pos (by omega)]
theorem ξbQ {a b : Nat} (h : b < a) : cmpZ a b = 1 := by unfold cmpZ; rw [if_neg (by omega), if_neg (by omega)]
theorem ξbN {a b : Nat} (h : a = b) : cmpZ a b = 0 := by unfold cmpZ; rw [if_neg (by omega), if_pos (by omega)]
theorem ξ1K (a b : Int) : cmpZ a b < 0 ↔ a < b := by unfold cmpZ; split <;> (try split) <;> omega
theorem Dig.set {l : List Nat} (h : Dig l) (i x : Nat) (hx : x < BB) : Dig (l.set i x) := fun y hy => by
 rcases List.mem_or_eq_of_mem_set hy with hy | rfl
 ·exact h y hy
 ·exact hx
theorem ξ5M {l : List Nat} {i x : Nat} (h : i < l.length) : gd (l.set i x) i = x := by simp [gd, List.getD, h]
theorem ξ0l {l : List Nat} {i j x : Nat} (h : i ≠ j) : gd (l.set i x) j = gd l j := by simp [gd, List.getD, List.getElem?_set_ne h]
theorem ξ1Q {l : List Nat} {i : Nat} (x : Nat) (h : i < l.length) : nval (l.set i x) + BB ^ i * gd l i = nval l + BB ^ i * x := by
 induction l generalizing i with
 | nil => simp at h
 | cons d l ih =>
  cases i with
  | zero => simp [nval, gd]; omega
  | succ i =>
   have := ih (i := i) (by simpa using h)
   have e : gd (d :: l) (i + 1) = gd l i := by simp [gd]
   rw [e]
   simp only [List.set_cons_succ, nval, Nat.pow_succ]
   have h2 := congrArg (fun z => BB * z) this
   simp only [Nat.mul_add] at h2
   have c1 : BB ^ i * BB * gd l i = BB * (BB ^ i * gd l i) := by rw [Nat.mul_comm (BB ^ i) BB, Nat.mul_assoc]
   have c2 : BB ^ i * BB * x = BB * (BB ^ i * x) := by rw [Nat.mul_comm (BB ^ i) BB, Nat.mul_assoc]
   rw [c1, c2]; omega
theorem ξ5S {l : List Nat} {i k c s x y V W : Nat} (hi : i + k < l.length) (h : nval l + BB ^ (i + k) * c = V + BB ^ i * (x * W))
  (hs : s = c + x * y + gd l (i + k)) : nval (l.set (i + k) (s % BB)) + BB ^ (i + k + 1) * (s / BB) = V + BB ^ i * (x * (W + BB ^ k * y)) := by
 have h1 := ξ1Q (l := l) (s % BB) hi
 have e := Nat.mod_add_div s BB
 have e3 := congrArg (fun z => BB ^ (i + k) * z) e
 rw [hs] at e3
 simp only [Nat.mul_add] at e3
 rw [← hs] at e3
 have c1 : BB ^ (i + k + 1) * (s / BB) = BB ^ (i + k) * (BB * (s / BB)) := by rw [Nat.pow_succ, Nat.mul_assoc]
 have c2 : BB ^ i * (x * (W + BB ^ k * y)) = BB ^ i * (x * W) + BB ^ (i + k) * (x * y) := by
  rw [Nat.mul_add, Nat.mul_add, Nat.pow_add, Nat.mul_assoc (BB ^ i) (BB ^ k), Nat.mul_left_comm x (BB ^ k) y]
 rw [c1, c2]
 omega
theorem ξa2 {l : List Nat} {i n c V x W : Nat} (hi : i + n < l.length) (h0 : gd l (i + n) = 0) (h : nval l + BB ^ (i + n) * c = V + BB ^ i * (x * W)) :
  nval (l.set (i + n) c) = V + BB ^ i * (x * W) := by
 have h1 := ξ1Q (l := l) c hi
 rw [h0] at h1
 omega
theorem ξ40 {x y : Nat} (hx : x < BB) (hy : y < BB) : x * y ≤ 18446744065119617025 := by
 have h1 : x ≤ 4294967295 := by rw [ξ5] at hx; omega
 have h2 : y ≤ 4294967295 := by rw [ξ5] at hy; omega
 exact Nat.mul_le_mul h1 h2
def qhat (x y z f s : Nat) : Nat := min (BB - 1) (((x * BB + y) * BB + z) / (f * BB + s))
theorem ξ83 {x y z f s q : Nat} (hf : 0 < f) (h1 : q ≤ BB - 1) (h2 : q * (f * BB + s) ≤ (x * BB + y) * BB + z) : q ≤ qhat x y z f s := by
 unfold qhat
 have hD : 0 < f * BB + s := by have := Nat.mul_pos hf ξv; omega
 have := (Nat.le_div_iff_mul_le hD).2 h2
 omega
theorem ξbx {x y z f s q : Nat} (hf : 0 < f) (h2 : (x * BB + y) * BB + z < q * (f * BB + s)) : qhat x y z f s < q := by
 unfold qhat
 have hD : 0 < f * BB + s := by have := Nat.mul_pos hf ξv; omega
 have := (Nat.div_lt_iff_lt_mul hD).2 h2
 omega
theorem ξ7H {x y z f s q : Nat} (h : BB ≤ q) : qhat x y z f s < q := by
 unfold qhat; have := ξv; omega
theorem ξ90 (x y z f s : Nat) : qhat x y z f s < BB := by unfold qhat; have := ξv; omega
theorem ξ31 (q f s : Nat) : q * (f * BB + s) = q * f * BB + q * s := by rw [Nat.mul_add, Nat.mul_assoc]
theorem ξax {x y z f s : Nat} (hy : y < BB) (hz : z < BB) (hf : 2147483648 ≤ f) (hx : x ≤ f) :
  qhat x y z f s ≤ (x * BB + y) / f ∧ (x * BB + y) / f ≤ BB + 1 := by
 have hf0 : 0 < f := by omega
 constructor
 ·rw [Nat.le_div_iff_mul_le hf0]
  have hD : 0 < f * BB + s := by have := Nat.mul_pos hf0 ξv; omega
  have h1 : qhat x y z f s ≤ ((x * BB + y) * BB + z) / (f * BB + s) := by unfold qhat; omega
  have h2 := (Nat.le_div_iff_mul_le hD).1 h1
  rw [ξ31] at h2
  generalize qhat x y z f s * f = P at *
  generalize qhat x y z f s * s = R at *
  generalize x * BB + y = N at *
  rw [ξ5] at *
  omega
 ·have h3 : (x * BB + y) / f < BB + 2 := by
   rw [Nat.div_lt_iff_lt_mul hf0, Nat.add_mul]
   have : x * BB ≤ f * BB := Nat.mul_le_mul_right _ hx
   rw [Nat.mul_comm BB f]
   generalize f * BB = P at *
   generalize x * BB = R at *
   rw [ξ5] at *
   omega
  omega
theorem ξaC {x y z f s q r : Nat} (hf : 0 < f) (h : x * BB + y = q * f + r) (ht : r * BB + z < q * s) : qhat x y z f s < q := by
 refine ξbx hf ?_
 rw [ξ31, h, Nat.add_mul]
 omega
theorem ξaA {x y z f s q r : Nat} (hf : 0 < f) (h : x * BB + y = q * f + r) (hq : q < BB) (ht : q * s ≤ r * BB + z) (hg : qhat x y z f s ≤ q) : q = qhat x y z f s := by
 refine Nat.le_antisymm (ξ83 hf (by omega) ?_) hg
 rw [ξ31, h, Nat.add_mul]
 omega
theorem ξbE {x y f q r : Nat} (hy : y < BB) (hx : x ≤ f) (h : x * BB + y = q * f + r) (hq : q = BB + 1) : r + f < BB := by
 subst hq
 rw [Nat.add_mul, Nat.one_mul, Nat.mul_comm BB f] at h
 have : x * BB ≤ f * BB := Nat.mul_le_mul_right _ hx
 omega
theorem ξ9V {x y z f s q r : Nat} (hf : 0 < f) (hy : y < BB) (hs : s < BB) (hx : x ≤ f) (h : x * BB + y = (q + 1) * f + r) (hq : q + 1 ≤ BB + 1) (hr : BB ≤ r + f) (hg : qhat x y z f s ≤ q) : q = qhat x y z f s := by
 have hq2 : q < BB := by
  rcases Nat.lt_or_ge q BB with h' | h'
  ·exact h'
  ·have := ξbE (q := q + 1) hy hx h (by omega); omega
 refine Nat.le_antisymm (ξ83 hf (by omega) ?_) hg
 have e : x * BB + y = q * f + (r + f) := by rw [h, Nat.add_mul]; omega
 rw [ξ31, e, Nat.add_mul]
 have h1 : q * s ≤ BB * BB := Nat.mul_le_mul (Nat.le_of_lt hq2) (Nat.le_of_lt hs)
 have h2 : BB * BB ≤ (r + f) * BB := Nat.mul_le_mul_right _ hr
 omega
theorem ξa1 {I P N Nl V Vl x y z f s : Nat} (hN : N = Nl + I * P * ((x * BB + y) * BB + z)) (hNl : Nl < I * P) (hV : V = Vl + P * (f * BB + s)) (hVl : Vl < P) (hf : 0 < f) (hlt : N < I * (BB * V)) :
  I * ((qhat x y z f s - 1) * V) ≤ N ∧ N < I * ((qhat x y z f s + 1) * V) := by
 obtain ⟨D, hD⟩ : ∃ D, f * BB + s = D := ⟨_, rfl⟩
 obtain ⟨M, hM⟩ : ∃ M, (x * BB + y) * BB + z = M := ⟨_, rfl⟩
 have hDB : BB ≤ D := by rw [← hD]; have := Nat.mul_le_mul_right BB hf; omega
 have hD0 : 0 < D := Nat.lt_of_lt_of_le ξv hDB
 obtain ⟨G, hG⟩ : ∃ G, qhat x y z f s = G := ⟨_, rfl⟩
 have hG1 : G = min (BB - 1) (M / D) := by rw [← hG, qhat, hD, hM]
 rw [hG]
 rw [hD] at hV
 rw [hM] at hN
 have hGD : G * D ≤ M := by rw [← Nat.le_div_iff_mul_le hD0]; omega
 have hGB : G < BB := by have := ξv; omega
 constructor
 ·have h1 : (G - 1) * V ≤ P * M := by
   have h2 : V ≤ P * (D + 1) := by rw [hV, Nat.mul_add]; omega
   have h3 : (G - 1) * (D + 1) ≤ M := by
    rcases Nat.eq_zero_or_pos G with h0 | h0
    ·subst h0; simp
    ·obtain ⟨g, rfl⟩ : ∃ g, G = g + 1 := ⟨G - 1, by omega⟩
     rw [Nat.add_sub_cancel, Nat.mul_add, Nat.mul_one]
     rw [Nat.add_mul, Nat.one_mul] at hGD
     omega
   calc (G - 1) * V ≤ (G - 1) * (P * (D + 1)) := Nat.mul_le_mul_left _ h2
    _ = P * ((G - 1) * (D + 1)) := Nat.mul_left_comm _ _ _
    _ ≤ P * M := Nat.mul_le_mul_left _ h3
  have := Nat.mul_le_mul_left I h1
  rw [hN, Nat.mul_assoc]
  omega
 ·by_cases hc : G = BB - 1
  ·have : G + 1 = BB := by have := ξv; omega
   rw [this]; exact hlt
  ·have hG2 : G = M / D := by omega
   have h4 : M + 1 ≤ (G + 1) * D := by
    have := Nat.lt_mul_div_succ M hD0
    rw [hG2, Nat.mul_comm]; exact this
   have h5 : P * (M + 1) ≤ (G + 1) * V := by
    calc P * (M + 1) ≤ P * ((G + 1) * D) := Nat.mul_le_mul_left _ h4
     _ = (G + 1) * (P * D) := Nat.mul_left_comm _ _ _
     _ ≤ (G + 1) * V := Nat.mul_le_mul_left _ (by omega)
   have h6 := Nat.mul_le_mul_left I h5
   rw [Nat.mul_add, Nat.mul_add, Nat.mul_one] at h6
   rw [hN, Nat.mul_assoc]
   omega
theorem ξ3H {l : List Nat} (h : Dig l) {k j : Nat} (hl : nval l < BB ^ k) (hj : k ≤ j) : gd l j = 0 := by
 refine Nat.eq_zero_of_not_pos fun hp => ?_
 have h1 := ξ0B l j
 have h2 := ξV l j
 have h3 : BB ^ j * 1 ≤ BB ^ j * nval (l.drop j) := Nat.mul_le_mul_left _ (by omega)
 have h4 : BB ^ k ≤ BB ^ j := Nat.pow_le_pow_right ξv hj
 generalize BB ^ j = X at *
 generalize BB ^ k = Y at *
 omega
theorem ξ36 {l : List Nat} (h : Dig l) {k : Nat} (hz : ∀ j, k ≤ j → gd l j = 0) : nval l < BB ^ k := by
 have h1 := ξ0B l k
 have h2 : nval (l.drop k) = 0 := by
  have key : ∀ m n, l.length - n ≤ m → k ≤ n → nval (l.drop n) = 0 := by
   intro m
   induction m with
   | zero => intro n hm _; rw [List.drop_eq_nil_of_le (by omega)]; rfl
   | succ m ih =>
    intro n hm hk
    rw [ξV, hz n hk]
    rcases Nat.lt_or_ge n l.length with hn | hn
    ·rw [ih (n + 1) (by omega) (by omega)]; simp
    ·rw [List.drop_eq_nil_of_le (by omega)]; simp [nval]
  exact key _ k (Nat.le_refl _) (Nat.le_refl _)
 have h3 := ξ0r h k
 rw [h1, h2]; simpa using h3
theorem ξ7r {m : List Nat} {at' i q d c br N V W Z C d' : Nat} (hi : at' + i < m.length) (h : nval m + BB ^ at' * (q * W) = N + BB ^ (at' + i) * (c + br))
  (hp : q * d + c = Z + BB * C) (hd : d' + Z + br = gd m (at' + i) + BB * V) :
  nval (m.set (at' + i) d') + BB ^ at' * (q * (W + BB ^ i * d)) = N + BB ^ (at' + i + 1) * (C + V) := by
 have h1 := ξ1Q (l := m) d' hi
 have e1 : BB ^ at' * (q * (W + BB ^ i * d)) = BB ^ at' * (q * W) + BB ^ (at' + i) * (q * d) := by
  rw [Nat.mul_add, Nat.mul_add, Nat.pow_add, Nat.mul_assoc (BB ^ at') (BB ^ i), Nat.mul_left_comm q (BB ^ i) d]
 have e2 : BB ^ (at' + i + 1) * (C + V) = BB ^ (at' + i) * (BB * C + BB * V) := by rw [Nat.pow_succ, Nat.mul_assoc, Nat.mul_add]
 rw [e1, e2]
 have e3 := congrArg (fun z => BB ^ (at' + i) * z) hp
 have e4 := congrArg (fun z => BB ^ (at' + i) * z) hd
 simp only [Nat.mul_add] at e3 e4 h ⊢
 generalize BB ^ (at' + i) = X at *
 omega
theorem ξ9M {m : List Nat} {at' i d c N W s : Nat} (hi : at' + i < m.length) (h : nval m + BB ^ (at' + i) * c = N + BB ^ at' * W)
  (hs : s = gd m (at' + i) + d + c) :
  nval (m.set (at' + i) (s % BB)) + BB ^ (at' + i + 1) * (s / BB) = N + BB ^ at' * (W + BB ^ i * d) := by
 have h1 := ξ1Q (l := m) (s % BB) hi
 have e := Nat.mod_add_div s BB
 have e1 : BB ^ at' * (W + BB ^ i * d) = BB ^ at' * W + BB ^ (at' + i) * d := by rw [Nat.mul_add, Nat.pow_add, Nat.mul_assoc]
 have e2 : BB ^ (at' + i + 1) * (s / BB) = BB ^ (at' + i) * (BB * (s / BB)) := by rw [Nat.pow_succ, Nat.mul_assoc]
 rw [e1, e2]
 have e3 := congrArg (fun z => BB ^ (at' + i) * z) e
 rw [hs] at e3
 simp only [Nat.mul_add] at e3
 rw [← hs] at e3
 generalize BB ^ (at' + i) = X at *
 omega
theorem ξ8F {T T' : Nat} (hT : T * T' = BB) (l m : List Nat) (hl : Dig l) : ∀ (n k : Nat), (∀ t, k ≤ t → t < k + n → gd m t = (gd l (t + 1) * BB + gd l t) / T % BB) → nval (l.drop (k + n)) = 0 → nval ((m.drop k).take n) = nval (l.drop k) / T := by
 have hT0 : 0 < T := by
  rcases Nat.eq_zero_or_pos T with h | h
  ·subst h; rw [Nat.zero_mul] at hT; have := ξv; omega
  ·exact h
 intro n
 induction n with
 | zero => intro k _ h; simp only [Nat.add_zero] at h; rw [h]; simp [nval]
 | succ n ih =>
  intro k hd hz
  have ih' := ih (k + 1) (fun t h1 h2 => hd t (by omega) (by omega)) (by rw [show k + 1 + n = k + (n + 1) from by omega]; exact hz)
  have e1 : nval ((m.drop k).take (n + 1)) = gd m k + BB * nval ((m.drop (k + 1)).take n) := by
   rcases Nat.lt_or_ge k m.length with h | h
   ·rw [List.drop_eq_getElem_cons h, List.take_succ_cons, nval, ξ2J h]
   ·rw [List.drop_eq_nil_of_le h, List.drop_eq_nil_of_le (by omega), ξ45 h]; simp [nval]
  rw [e1, ih', hd k (Nat.le_refl _) (by omega), ξV l k, ξV l (k + 1)]
  have hx : gd l k < BB := hl.gd k
  obtain ⟨x, hx'⟩ : ∃ x, gd l k = x := ⟨_, rfl⟩
  obtain ⟨y, hy'⟩ : ∃ y, gd l (k + 1) = y := ⟨_, rfl⟩
  obtain ⟨R, hR⟩ : ∃ R, nval (l.drop (k + 1 + 1)) = R := ⟨_, rfl⟩
  rw [hx'] at hx
  simp only [hx', hy', hR]
  -- y + BB R = y + T (T' R)
  have a1 : (y + BB * R) / T = y / T + T' * R := by
   rw [← hT, Nat.mul_assoc, Nat.add_mul_div_left _ _ hT0]
  have a2 : (x + BB * (y + BB * R)) / T = (y * BB + x) / T + BB * (T' * R) := by
   have : x + BB * (y + BB * R) = (y * BB + x) + T * (BB * (T' * R)) := by
    have e : BB * (BB * R) = T * (BB * (T' * R)) := by
     rw [Nat.mul_left_comm T BB, ← Nat.mul_assoc T T' R, hT]
    rw [Nat.mul_add, e, Nat.mul_comm BB y]; omega
   rw [this, Nat.add_mul_div_left _ _ hT0]
  have a3 : (y * BB + x) / T / BB = y / T := by
   rw [Nat.div_div_eq_div_mul, Nat.mul_comm T BB, ← Nat.div_div_eq_div_mul, Nat.mul_comm y BB, Nat.mul_add_div ξv, Nat.div_eq_of_lt hx, Nat.add_zero]
  rw [a1, a2, Nat.mul_add]
  have a4 := Nat.mod_add_div ((y * BB + x) / T) BB
  rw [a3] at a4
  omega
theorem ξ9I {s : Nat} (hs : s ≤ 32) : 2 ^ s * 2 ^ (32 - s) = BB := by
 rw [← Nat.pow_add, show s + (32 - s) = 32 from by omega, ξ5]
theorem ξcB {A V Q R : Nat} (h : R + V * Q = A) (hR : R < V) : A / V = Q ∧ A % V = R := by
 have hV : 0 < V := Nat.lt_of_le_of_lt (Nat.zero_le _) hR
 constructor
 ·rw [← h, Nat.add_mul_div_left _ _ hV, Nat.div_eq_of_lt hR, Nat.zero_add]
 ·rw [← h, Nat.add_mul_mod_self_left, Nat.mod_eq_of_lt hR]
theorem ξ2S {n k : Nat} (h1 : BB ^ k ≤ n) (h2 : n < BB ^ (k + 1)) : (digs n).length = k + 1 := by
 have a := ξh h2
 have b : ¬ (digs n).length ≤ k := fun h => by have := ξc h; omega
 omega
theorem ξ2I (l : List Nat) (k : Nat) (h : l.length = k + 1) : nval l = nval (l.take k) + BB ^ k * gd l k := by
 have := ξy l k
 rw [List.take_of_length_le (by omega)] at this
 exact this
theorem ξ9v (l : List Nat) (k : Nat) (h : l.length = k + 2) : nval l = nval (l.take k) + BB ^ k * (gd l (k + 1) * BB + gd l k) := by
 rw [ξ2I l (k + 1) h, ξy, Nat.pow_succ, Nat.mul_add, Nat.mul_assoc, Nat.mul_comm (gd l (k + 1)) BB]
 omega
theorem ξ9n {l : List Nat} (hd : Dig l) (k : Nat) (h : nval l < BB ^ (k + 3)) : nval l = nval (l.take k) + BB ^ k * ((gd l (k + 2) * BB + gd l (k + 1)) * BB + gd l k) := by
 have hz : nval (l.drop (k + 3)) = 0 := by
  refine Nat.eq_zero_of_not_pos fun hp => ?_
  have h1 := ξ0B l (k + 3)
  have h2 := Nat.mul_le_mul_left (BB ^ (k + 3)) hp
  generalize BB ^ (k + 3) = X at *
  omega
 have e := ξ0B l k
 rw [ξV l k, ξV l (k + 1), ξV l (k + 1 + 1), hz] at e
 rw [e]
 congr 2
 rw [show k + 1 + 1 = k + 2 from rfl]
 simp only [Nat.mul_zero, Nat.add_zero]
 generalize gd l (k + 2) = a
 generalize gd l (k + 1) = b
 rw [Nat.mul_comm BB (b + _), Nat.mul_comm BB a, Nat.add_comm b, Nat.add_comm (gd l k)]
end Go.Proofs.YtcjgimlcefhhmaaGreatDoor
namespace Go.Proofs.YtcjgimlcefhhmaaGreatDoor
open Go.RowKit
def NatL (w : World) (v : Value) (l : List Nat) : Prop :=
 Dig l ∧ ∃ p c, v = .slice p l.length c ∧ l.length ≤ c ∧ c ≤ 9223372036854775807 ∧
  (c = 0 ∨ ∃ b o, p = some ⟨b, o, none⟩ ∧ ∀ i, i < l.length → w.cell? ⟨b, o + i, none⟩ = some (.int .u32 (gd l i)))
theorem NatL.dig {w : World} {v : Value} {l : List Nat} (h : NatL w v l) : Dig l := h.1
theorem NatL.grow {w w' : World} {v : Value} {l : List Nat} (h : NatL w v l) (g : Gr w w') : NatL w' v l := by
 obtain ⟨h0, p, c, hv, h1, h2, h3⟩ := h
 refine ⟨h0, p, c, hv, h1, h2, ?_⟩
 rcases h3 with h3 | ⟨b, o, hp, hc⟩
 ·exact .inl h3
 ·exact .inr ⟨b, o, hp, fun i hi => g.cell (hc i hi)⟩
theorem ξ3C (b o i : Nat) : (⟨b, o, none⟩ : Addr).add i = ⟨b, o + i, none⟩ := by
 cases i <;> simp [Addr.add]
theorem NatL.at {w : World} {p : Option Addr} {n c : Nat} {l : List Nat} (h : NatL w (.slice p n c) l) (i : Nat) (hi : i < l.length) :
  ∃ b o, p = some ⟨b, o, none⟩ ∧ w.cell? ⟨b, o + i, none⟩ = some (.int .u32 (gd l i)) := by
 obtain ⟨h0, p', c', hv, h1, h2, h3⟩ := h
 cases hv
 rcases h3 with h3 | ⟨b, o, hp, hc⟩
 ·omega
 ·exact ⟨b, o, hp, hc i hi⟩
theorem NatL.len {w : World} {p : Option Addr} {n c : Nat} {l : List Nat} (h : NatL w (.slice p n c) l) : l.length = n := by
 obtain ⟨h0, p', c', hv, h1, h2, h3⟩ := h
 cases hv; rfl
theorem NatL.parts {w : World} {v : Value} {l : List Nat} (h : NatL w v l) : ∃ p c, v = .slice p l.length c ∧ l.length ≤ c ∧ c ≤ 9223372036854775807 ∧ Dig l := by
 obtain ⟨h0, p, c, hv, h1, h2, -⟩ := h
 exact ⟨p, c, hv, h1, h2, h0⟩
theorem NatL.one (w : World) (e : Int) (x : Nat) (he : e = x) (hx : x < BB) (t : TypeId) : NatL (w.alloc (.cells #[.int .u32 e] t)) (.slice (some ⟨w.heap.size, 0, none⟩) 1 1) [x] := by
 subst he
 refine ⟨Dig.cons hx Dig.nil, _, 1, rfl, by simp, by omega, .inr ⟨w.heap.size, 0, rfl, fun i hi => ?_⟩⟩
 have : i = 0 := by simpa using hi
 subst this
 simp [go_sem, gd]
theorem NatL.nil (w : World) : NatL w (.slice none 0 0) [] := ⟨Dig.nil, none, 0, rfl, by simp, by omega, .inl rfl⟩
theorem NatL.take {w : World} {p : Option Addr} {n c : Nat} {l : List Nat} (h : NatL w (.slice p n c) l) (k k' : Nat) (hk : k ≤ l.length) (hk' : k ≤ k') (hc : k' ≤ c) :
  NatL w (.slice p k k') (l.take k) := by
 obtain ⟨h0, p', c', hv, h1, h2, h3⟩ := h
 cases hv
 have hl : (l.take k).length = k := by rw [List.length_take]; omega
 refine ⟨h0.take k, p, k', by rw [hl], by omega, by omega, ?_⟩
 rcases h3 with h3 | ⟨b, o, hp, hcell⟩
 ·exact .inl (by omega)
 ·refine .inr ⟨b, o, hp, fun i hi => ?_⟩
  rw [hl] at hi
  rw [hcell i (by omega), show gd (l.take k) i = gd l i from by unfold gd; rw [List.getD_eq_getElem?_getD, List.getD_eq_getElem?_getD, List.getElem?_take_of_lt hi]]
def cellsN (l : List Nat) : List Value := l.map fun (d : Nat) => Value.int .u32 (d : Int)
theorem ξ2g (l : List Nat) : (cellsN l).length = l.length := by simp [cellsN]
theorem ξ8H (l : List Nat) : ∀ u ∈ cellsN l, u.oneCell' = true := by
 intro u hu
 obtain ⟨d, _, rfl⟩ := List.mem_map.1 hu
 rfl
theorem ξ2r {l : List Nat} {i : Nat} (h : i < l.length) : (cellsN l)[i]? = some (.int .u32 (gd l i)) := by
 unfold cellsN
 rw [List.getElem?_map, List.getElem?_eq_getElem h, ξ2J h]; rfl
theorem ξ6h (l m : List Nat) : cellsN (l ++ m) = cellsN l ++ cellsN m := by simp [cellsN]
def OwnN (w : World) (base : Nat) (v : Value) (l : List Nat) : Prop := w.ownsRow base 153 1 v l.length (cellsN l) ∧ Dig l
theorem OwnN.nil (w : World) (base : Nat) : OwnN w base (.slice none 0 0) [] := ⟨World.ownsRow_nil w base _ 1, Dig.nil⟩
theorem OwnN.read {w : World} {base : Nat} {v : Value} {l : List Nat} (h : OwnN w base v l) : NatL w v l := by
 obtain ⟨⟨h1, h2⟩, hd⟩ := h
 rcases h2 with ⟨rfl, h2⟩ | ⟨g, cap, cur, rfl, hb, hh, hn, hm, hs, ht⟩
 ·have : l = [] := List.eq_nil_of_length_eq_zero h2
  subst this
  exact NatL.nil w
 ·refine ⟨hd, _, cap, rfl, hn, by simpa [maxLen] using hm, .inr ⟨g, 0, rfl, fun i hi => ?_⟩⟩
  have h3 : (cellsN l)[i]? = some (.int .u32 (gd l i)) := ξ2r hi
  have h4 := World.ownsRow.cells (w := w) (base := base) (e := 153) (size := 1) (v := .slice (some ⟨g, 0, none⟩) l.length cap) (n := l.length) (xs := cellsN l)
   ⟨h1, .inr ⟨g, cap, cur, rfl, hb, hh, hn, hm, hs, ht⟩⟩ (g := g) rfl i _ h3
  rw [ξ3C] at h4; simpa using h4
theorem OwnN.made0 (w : World) (base : Nat) (hb : base ≤ w.heap.size) : OwnN (w.alloc (.cells #[] 153)) base (.slice (some ⟨w.heap.size, 0, none⟩) 0 0) [] :=
 ⟨World.ownsRow_made w #[] 0 hb (by simp [maxLen]) (by simp), Dig.nil⟩
theorem OwnN.grow {w w' : World} {base : Nat} {v : Value} {l : List Nat} (h : OwnN w base v l) (g : Gr w w') : OwnN w' base v l := by
 refine ⟨h.1.kept (row := none) ⟨g.os, g.tape, g.output, g.size, fun k hk _ => Below.block g k hk⟩ ?_, h.2⟩
 cases v.ownBlock <;> simp
theorem OwnN.lt {w : World} {base : Nat} {v : Value} {l : List Nat} (h : OwnN w base v l) : ∀ k, v.ownBlock = some k → base ≤ k ∧ k < w.heap.size := h.1.lt
def Own (base : Nat) (w w' : World) : Prop := Below base w w'
theorem Own.refl (base : Nat) (w : World) : Own base w w := Below.refl _ _
theorem Own.trans {base : Nat} {a b c : World} (h : Own base a b) (k : Own base b c) : Own base a c := Below.trans h k
theorem Own.drewN (base : Nat) (w : World) (n : Nat) : Own base w (w.drewN n) := ⟨rfl, rfl, rfl, Nat.le_refl _, fun _ _ => rfl⟩
theorem Own.of_gr {base : Nat} {w w' : World} (h : Gr w w') (hb : base ≤ w.heap.size) : Own base w w' := Below.mono h hb
theorem Own.gr {w w' : World} (h : Own w.heap.size w w') : Gr w w' := h
theorem Own.size {base : Nat} {w w' : World} (h : Own base w w') : w.heap.size ≤ w'.heap.size := Below.size h
theorem Own.grown {base : Nat} {w w' : World} {row : Option Nat} (hg : w.grownBy w' row) (hb : base ≤ w.heap.size) (hr : ∀ k, row = some k → base ≤ k) : Own base w w' :=
 Below.grown (Below.refl _ _) hg hb hr
theorem Gr.own {w w0 w' : World} (h : Gr w w0) (g : Own w.heap.size w0 w') : Gr w w' := Below.trans h g
theorem NatL.own {base : Nat} {w0 w' : World} {v : Value} {l : List Nat} (h : NatL w0 v l) (hb : base = w0.heap.size) (g : Own base w0 w') : NatL w' v l := by
 subst hb; exact h.grow g
theorem ξ6B : (Tryz.prog.info? 153).map (fun i => (i.zero, i.size, i.bytes)) = some (some (.int .u32 0), 1, 4) := by kernel_rfl
section
variable {P : Program} {ops : Array Oper} {rest : List Oper} {o : Oper} {a : Act} {Q : Exit → Act → World → Prop} {w : World}
theorem ξ1X (hgd : o.guard = none) (s x : Operand) (t : TypeId) (ho : o.op = .call { callee := .builtin .append, args := #[s, x], argTypes := #[t, t] })
  (ht : Tryz.prog.underlying t = some (.slice 153)) (base : Nat) (v vx : Value) (l m : List Nat) (hs : a.eval s = v) (hown : OwnN w base v l) (hx : a.eval x = vx) (hm : NatL w vx m)
  (hlen : l.length + m.length ≤ 35184372088832) (hbase : base ≤ w.heap.size)
  (h : ∀ v' w', OwnN w' base v' (l ++ m) → Own base w w' → base ≤ w'.heap.size → wpList Tryz.prog ops Q rest (a.put o.dst v') w') : wpList Tryz.prog ops Q (o :: rest) a w := by
 obtain ⟨i0, hi, hz0, hz1, hz2⟩ := info_parts ξ6B
 obtain ⟨hd, p, c, rfl, h1, h2, h3⟩ := hm
 have hrow : ∀ k, v.ownBlock = some k → base ≤ k := fun k hk => (hown.lt k hk).1
 rcases h3 with rfl | ⟨b, off, rfl, hc⟩
 ·have hm0 : m = [] := List.eq_nil_of_length_eq_zero (by omega)
  subst hm0
  have h' := h v w (by simpa using hown) (Own.refl _ _) hbase
  refine wpList_plain hgd (fun K hK => ?_)
  have hr : (Builtin.append_ #[t, t] o.type #[v, .slice p 0 0]).run Tryz.prog w = .ok v w := by
   rcases p with _ | p <;> rcases hown.1.2 with ⟨rfl, _⟩ | ⟨g, cap, cur, rfl, _, hh, hn, _⟩
   all_goals first
    | (have hn' : l.length ≤ cap := hn
       simp [Builtin.append_, run_underlying ht, sizeOf, typeInfo, hi, Builtin.lenOf, Builtin.firstCells, loadCells, loadCellsFrom, hn', storeCells])
    | simp [Builtin.append_, run_underlying ht, sizeOf, typeInfo, hi, Builtin.lenOf, Builtin.firstCells, loadCells, loadCellsFrom]
  unfold Oper.wp execOp
  simp only [ho, resolve, invoke, builtin, Sem.run_bind, Sem.run_pure, Result.andThen_ok, List.map_toArray, List.map_cons, List.map_nil, hs, hx, List.length_nil, hr]
  exact hK _ _ h'
 ·refine wpList_append_own _ hgd s x t ho base 153 i0 (.int .u32 0) 1 4 ht hi hz0 hz1 hz2 rfl (by omega) v l.length (cellsN l) hs hown.1 ⟨b, off, none⟩ m.length c (cellsN m) hx
   (by rw [ξ2g]; omega) (fun j u hu => ?_) (ξ8H m) (by unfold maxLen; omega) (by omega) hbase (fun v' w' hown' hg _ => ?_)
  ·have hj : j < m.length := by
    have := (List.getElem?_eq_some_iff.1 hu).1
    rwa [ξ2g] at this
   rw [ξ2r hj] at hu
   have := hc j hj
   simp only [Option.some.injEq] at hu
   subst hu
   rw [ξ3C]; exact this
  ·refine h v' w' ⟨?_, hown.2.append hd⟩ (Own.grown hg hbase hrow) (Nat.le_trans hbase hg.size)
   rw [ξ6h, List.length_append]
   exact hown'
end
def RowN (w : World) (g : Nat) (l : List Nat) : Prop := w.heap[g]? = some (.cells (cellsN l).toArray 153 (0, 0)) ∧ Dig l
theorem RowN.dig {w : World} {g : Nat} {l : List Nat} (h : RowN w g l) : Dig l := h.2
theorem RowN.cell {w : World} {g : Nat} {l : List Nat} (h : RowN w g l) {i : Nat} (hi : i < l.length) : w.cell? ⟨g, i, none⟩ = some (.int .u32 (gd l i)) := by
 simp [World.cell?, h.1, ξ2r hi]
theorem RowN.free {w : World} {g : Nat} {l : List Nat} (h : RowN w g l) (i : Nat) : w.frozen? ⟨g, i, none⟩ = false := by
 simp [World.frozen?, h.1]
theorem RowN.lt {w : World} {g : Nat} {l : List Nat} (h : RowN w g l) : g < w.heap.size := by
 rcases Nat.lt_or_ge g w.heap.size with h' | h'
 ·exact h'
 ·have := h.1; rw [Array.getElem?_eq_none h'] at this; cases this
theorem RowN.grow {w w' : World} {g : Nat} {l : List Nat} (h : RowN w g l) (gr : Gr w w') : RowN w' g l :=
 ⟨by rw [Below.block gr g h.lt]; exact h.1, h.2⟩
theorem RowN.read {w : World} {g : Nat} {l : List Nat} (h : RowN w g l) (c : Nat) (hc : l.length ≤ c) (hm : c ≤ 9223372036854775807) : NatL w (.slice (some ⟨g, 0, none⟩) l.length c) l :=
 ⟨h.2, _, c, rfl, hc, hm, .inr ⟨g, 0, rfl, fun i hi => by rw [Nat.zero_add]; exact h.cell hi⟩⟩
theorem RowN.set {w : World} {g : Nat} {l : List Nat} (h : RowN w g l) (i x : Nat) (e : Int) (he : e = x) (hx : x < BB) : RowN (w.setCell ⟨g, i, none⟩ (.int .u32 e)) g (l.set i x) := by
 subst he
 refine ⟨?_, h.2.set i x hx⟩
 simp only [World.setCell, Array.getElem?_modify, h.1, if_true, Option.map_some]
 simp [cellsN, List.map_set]
theorem Own.setCell {base : Nat} (w : World) {g : Nat} (hg : base ≤ g) (i : Nat) (v : Value) : Own base w (w.setCell ⟨g, i, none⟩ v) :=
 Below.setCell (Below.refl _ _) hg v
section
variable {ops : Array Oper} {rest : List Oper} {o : Oper} {a : Act} {Q : Exit → Act → World → Prop} {w : World}
theorem ξ2M (hgd : o.guard = none) (x y : Operand) (t : TypeId) (ho : o.op = .makeSlice t x y) (ht : Tryz.prog.underlying t = some (.slice 153)) (n : Nat) (e : Int) (hx : a.eval x = .int .i64 e) (hy : a.eval y = .int .i64 e) (he : e = n)
  (hn : n ≤ 35184372088832) (h : ∀ w', RowN w' w.heap.size (List.replicate n 0) → Gr w w' → w.heap.size < w'.heap.size → wpList Tryz.prog ops Q rest (a.put o.dst (.slice (some ⟨w.heap.size, 0, none⟩) n n)) w') : wpList Tryz.prog ops Q (o :: rest) a w := by
 subst he
 obtain ⟨i0, hi, hz0, hz1, hz2⟩ := info_parts ξ6B
 refine wpList_plain hgd (fun K hK => ?_)
 have hr := run_make (P := Tryz.prog) w t 153 i0 (.int .u32 0) ht hi hz0 .i64 .i64 n n (by omega) (by omega) (by rw [hz2]; omega) (by omega)
 unfold Oper.wp execOp
 simp only [ho, hx, hy, Sem.run_bind, Sem.run_pure, Result.andThen_ok, hr, Oper.upon, Int.toNat_natCast]
 refine hK _ _ (h _ ⟨?_, ?_⟩ ((Gr.refl w).alloc _) (by simp))
 ·rw [hz1, Nat.mul_one]
  have e : madeCells (Value.int .u32 0).cells n = (cellsN (List.replicate n 0)).toArray := by
   apply Array.ext'
   simp [madeCells, cellsN, Value.cells, Nat.mod_one]
   refine List.ext_getElem (by simp) (fun j h1 h2 => by simp)
  rw [e]
  exact heap_alloc_new w _
 ·intro d hd
  rw [(List.mem_replicate.1 hd).2]; exact ξv
end
def ξg (g : Nat) (w w' : World) : Prop := w.grownBy w' (some g)
theorem ξg.refl (g : Nat) (w : World) : ξg g w w := ⟨rfl, rfl, rfl, Nat.le_refl _, fun _ _ _ => rfl⟩
theorem ξg.trans {g : Nat} {a b c : World} (h : ξg g a b) (k : ξg g b c) : ξg g a c :=
 ⟨k.os.trans h.os, k.tape.trans h.tape, k.output.trans h.output, Nat.le_trans h.size k.size, fun i hi hn => (k.block i (Nat.lt_of_lt_of_le hi h.size) hn).trans (h.block i hi hn)⟩
theorem ξg.set (g : Nat) (w : World) (i : Nat) (v : Value) : ξg g w (w.setCell ⟨g, i, none⟩ v) :=
 ⟨rfl, rfl, rfl, by simp [World.setCell], fun k _ hk => Below.heap_setCell _ _ _ _ (fun e => hk (by rw [e]))⟩
theorem ξg.drewN (g : Nat) (w : World) (n : Nat) : ξg g w (w.drewN n) := ⟨rfl, rfl, rfl, Nat.le_refl _, fun _ _ _ => rfl⟩
theorem ξg.of_gr {g : Nat} {w w' : World} (h : Gr w w') : ξg g w w' := ⟨h.os, h.tape, h.output, h.size, fun k hk _ => Below.block h k hk⟩
theorem ξg.own {g base : Nat} {w w' : World} (h : ξg g w w') (hb : base ≤ w.heap.size) (hg : base ≤ g) : Own base w w' :=
 Own.grown h hb (fun k hk => by cases hk; exact hg)
def ξ4d (g : Nat) (v : Value) : Prop := ∀ b o n c, v = .slice (some ⟨b, o, none⟩) n c → b ≠ g
theorem NatL.keep {g : Nat} {w w' : World} {v : Value} {l : List Nat} (h : NatL w v l) (hn : ξ4d g v) (ho : ξg g w w') : NatL w' v l := by
 obtain ⟨h0, p, c, rfl, h1, h2, h3⟩ := h
 refine ⟨h0, p, c, rfl, h1, h2, ?_⟩
 rcases h3 with h3 | ⟨b, o, rfl, hc⟩
 ·exact .inl h3
 ·refine .inr ⟨b, o, rfl, fun i hi => ?_⟩
  have hne := hn b o _ _ rfl
  rw [World.cell?_of_block (w := w) (w' := w') (a := ⟨b, o + i, none⟩) (ho.block b (World.block_lt_of_cell? w _ (hc i hi)) (fun e => hne (by cases e; rfl)))]
  exact hc i hi
theorem RowN.keep {g g' : Nat} {w w' : World} {l : List Nat} (h : RowN w g l) (hn : g ≠ g') (ho : ξg g' w w') : RowN w' g l :=
 ⟨by rw [ho.block g h.lt (fun e => hn (by cases e; rfl))]; exact h.1, h.2⟩
end Go.Proofs.YtcjgimlcefhhmaaGreatDoor
namespace Go.Proofs.YtcjgimlcefhhmaaGreatDoor
open Go.RowKit
def ξo (Z : Array Value) (T : TypeId) (b : Nat) (w : World) : Prop := w.heap[b]? = some (.cells Z T (0, 0))
theorem ξo.lt {Z : Array Value} {T : TypeId} {b : Nat} {w : World} (h : ξo Z T b w) : b < w.heap.size := by
 rcases Nat.lt_or_ge b w.heap.size with h' | h'
 ·exact h'
 ·unfold ξo at h; rw [Array.getElem?_eq_none h'] at h; cases h
theorem ξo.grow {Z : Array Value} {T : TypeId} {b : Nat} {w w' : World} (h : ξo Z T b w) (g : Gr w w') : ξo Z T b w' := by
 unfold ξo; rw [Below.block g b h.lt]; exact h
theorem ξo.new (Z : Array Value) (T : TypeId) (w : World) : ξo Z T w.heap.size (w.alloc (.cells Z T)) := heap_alloc_new w _
def ξ3d (P : Program) (T : TypeId) (Z : Array Value) : Prop :=
 ∀ w, (Instr.alloc T true (.tuple #[])).run P w = .ok (.pointer (some ⟨w.heap.size, 0, none⟩)) (w.alloc (.cells Z T))
def ptr (b : Nat) : Value := .pointer (some ⟨b, 0, none⟩)
section
variable {P : Program} {ops : Array Oper} {md : Region.Mode} {Q : Exit → Act → World → Prop} {zc : TypeId → Array Value}
theorem ξ4Y {o : Oper} {T : TypeId} (ho : o.op = .alloc T) (hA : ξ3d P T (zc T)) (ρ : Operand → Value) (w : World) :
  (execOp ρ o).run P w = .ok (.value (ptr w.heap.size)) (w.alloc (.cells (zc T) T)) := by
 unfold execOp
 simp only [ho, Sem.run_bind, hA w, Result.andThen_ok, Sem.run_pure]
 rfl
def wpF (P : Program) (ops : Array Oper) (Q : Exit → Act → World → Prop) (zc : TypeId → Array Value) : List (Nat × Nat) → (Nat → Prop) → Act → World → Prop
 | [], _, a, w => Q .normal a w
 | (i, k) :: rest, U, a, w => ∃ o, ops[i]? = some o ∧
   if k = 2 then ∀ T, o.op = .alloc T → ∀ w1 b, Gr w w1 → ξo (zc T) T b w1 → ¬ U b → wpF P ops Q zc rest (fun x => U x ∨ x = b) (a.put o.dst (ptr b)) w1
   else if Region.wanted o (yielded ops a.tmps) = true then
    (if k = 1 then ∃ v, (∀ w', Gr w w' → (execOp a.eval o).run P w' = .ok (.value v) w') ∧ wpF P ops Q zc rest U (a.put o.dst v) w
     else ∀ w1, Gr w w1 → Oper.wp P o a w1 (fun a' w' => relOf o w1 w' ∧ wpF P ops Q zc rest U a' w') Q)
   else wpF P ops Q zc rest U (a.put o.dst undef) w
theorem ξ2D : ∀ (l : List (Nat × Nat)) (U U' : Nat → Prop) (a : Act) (w : World), (∀ x, U x → U' x) → wpF P ops Q zc l U a w → wpF P ops Q zc l U' a w
 | [], _, _, _, _, _, h => h
 | (i, k) :: rest, U, U', a, w, hU, ⟨o, ho, h⟩ => by
  refine ⟨o, ho, ?_⟩
  by_cases hk : k = 2
  ·rw [if_pos hk] at h ⊢
   exact fun T hT w1 b g f n => ξ2D rest _ _ _ _ (fun x hx => hx.imp (hU x) id) (h T hT w1 b g f (fun hb => n (hU b hb)))
  ·rw [if_neg hk] at h ⊢
   by_cases hw : Region.wanted o (yielded ops a.tmps) = true
   ·rw [if_pos hw] at h ⊢
    by_cases hk1 : k = 1
    ·rw [if_pos hk1] at h ⊢
     obtain ⟨v, hv, h⟩ := h
     exact ⟨v, hv, ξ2D rest _ _ _ _ hU h⟩
    ·rw [if_neg hk1] at h ⊢
     exact fun w1 g => Oper.wp_mono (fun a' w' hk => ⟨hk.1, ξ2D rest _ _ _ _ hU hk.2⟩) (h w1 g)
   ·rw [if_neg hw] at h ⊢
    exact ξ2D rest _ _ _ _ hU h
def hasAlloc : List (Nat × Nat) → Bool
 | [] => false
 | (_, k) :: rest => k == 2 || hasAlloc rest
theorem ξ4J : ∀ (l : List (Nat × Nat)) (U : Nat → Prop) (a : Act) (w w' : World), hasAlloc l = true → Gr w w' → wpF P ops Q zc l U a w → wpF P ops Q zc l U a w'
 | [], _, _, _, _, h, _, _ => by simp [hasAlloc] at h
 | (i, k) :: rest, U, a, w, w', hl, g, ⟨o, ho, h⟩ => by
  refine ⟨o, ho, ?_⟩
  by_cases hk : k = 2
  ·rw [if_pos hk] at h ⊢
   exact fun T hT w1 b g1 f n => h T hT w1 b (g.trans g1) f n
  ·have hl' : hasAlloc rest = true := by simpa [hasAlloc, hk] using hl
   rw [if_neg hk] at h ⊢
   by_cases hw : Region.wanted o (yielded ops a.tmps) = true
   ·rw [if_pos hw] at h ⊢
    by_cases hk1 : k = 1
    ·rw [if_pos hk1] at h ⊢
     obtain ⟨v, hv, h⟩ := h
     exact ⟨v, fun w2 g2 => hv w2 (g.trans g2), ξ4J rest U _ _ _ hl' g h⟩
    ·rw [if_neg hk1] at h ⊢
     exact fun w1 g1 => h w1 (g.trans g1)
   ·rw [if_neg hw] at h ⊢
    exact ξ4J rest U _ _ _ hl' g h
def earlyOK (ops : Array Oper) (i : Nat) (oi : Oper) : List (Nat × Nat) → Bool
 | [] => false
 | (j, k) :: rest => if j = i ∧ k = 2 then true else (match ops[j]? with | some oj => oi.apart ops oj && !isStore oj | none => false) && earlyOK ops i oi rest
def eraseF (i : Nat) : List (Nat × Nat) → List (Nat × Nat)
 | [] => []
 | (j, k) :: rest => if j = i ∧ k = 2 then rest else (j, k) :: eraseF i rest
theorem ξ3G {i : Nat} {oi : Oper} : ∀ (l : List (Nat × Nat)), earlyOK ops i oi l = true → (eraseF i l).length + 1 = l.length
 | [], h => by simp [earlyOK] at h
 | (j, k) :: rest, h => by
  unfold earlyOK at h
  unfold eraseF
  split
  ·rfl
  ·rename_i hn
   rw [if_neg hn] at h
   simp only [Bool.and_eq_true] at h
   simp [ξ3G rest h.2]
theorem ξ2j {i : Nat} : ∀ (l : List (Nat × Nat)) (x : Nat × Nat), x ∈ eraseF i l → x ∈ l
 | [], x, h => h
 | (j, k) :: rest, x, h => by
  unfold eraseF at h
  split at h
  ·exact List.mem_cons_of_mem _ h
  ·rcases List.mem_cons.1 h with rfl | h
   ·exact List.mem_cons_self
   ·exact List.mem_cons_of_mem _ (ξ2j rest x h)
theorem ξ6P {oi oj : Oper} {v : Value} (hap : oi.apart ops oj = true) (hsj : ∀ cs b, oj.op ≠ .select cs b)
  (hQ : ∀ c a d v w, Q (.panic c) a w → Q (.panic c) (a.put d v) w) {K K' : Act → World → Prop} {a : Act} {w : World}
  (hK : ∀ a' w', relOf oj w w' → K a' w' → K' (a'.put oi.dst v) w')
  (h : Oper.wp P oj a w (fun a' w' => relOf oj w w' ∧ K a' w') Q) : Oper.wp P oj (a.put oi.dst v) w (fun a' w' => relOf oj w w' ∧ K' a' w') Q := by
 obtain ⟨h1, h2, h3⟩ := Oper.apart_spec hap
 unfold Oper.wp at *
 rw [execOp_put oj hsj a oi.dst v h1]
 generalize (execOp a.eval oj).run P w = r at *
 cases r with
 | ok n w' =>
  cases n <;> simp only [Oper.upon] at h ⊢
  case value u => exact ⟨h.1, by rw [Act.put_comm a v u h2]; exact hK _ _ h.1 h.2⟩
  case skip => exact ⟨h.1, by rw [Act.put_comm a v undef h2]; exact hK _ _ h.1 h.2⟩
  case defer d =>
   refine ⟨h.1, ?_⟩
   rw [Act.put_defers, Act.put_comm _ v undef h2]
   exact hK _ _ h.1 h.2
  case enter f args =>
   refine Calls.mono h fun e w'' he => ?_
   cases e with
   | returned u => exact ⟨he.1, by rw [Act.put_comm a v u h2]; exact hK _ _ he.1 he.2⟩
   | panicked c => exact hQ _ _ _ _ _ he
   | outgrown => exact he
  case row row args => exact Rows.mono h fun u w'' he => ⟨he.1, by rw [Act.put_comm a v u h2]; exact hK _ _ he.1 he.2⟩
 | halt x w' =>
  cases x <;> simp only [Oper.upon] at h ⊢
  case panic u => exact hQ _ _ _ _ _ h
theorem ξ26 {i : Nat} {oi : Oper} {T : TypeId} {b : Nat} (hi : ops[i]? = some oi) (hT : oi.op = .alloc T) (hsel : ∀ (j : Nat) (o : Oper) cs b, ops[j]? = some o → o.op ≠ .select cs b)
  (hQ : ∀ c a d v w, Q (.panic c) a w → Q (.panic c) (a.put d v) w) :
  ∀ (l : List (Nat × Nat)) (U : Nat → Prop) (a : Act) (w : World), earlyOK ops i oi l = true → ξo (zc T) T b w → ¬ U b → wpF P ops Q zc l U a w → wpF P ops Q zc (eraseF i l) (fun x => U x ∨ x = b) (a.put oi.dst (ptr b)) w
 | [], _, _, _, h, _, _, _ => by simp [earlyOK] at h
 | (j, k) :: rest, U, a, w, hok, hf, hU, ⟨o, ho, h⟩ => by
  unfold earlyOK at hok
  unfold eraseF
  by_cases hh : j = i ∧ k = 2
  ·obtain ⟨rfl, rfl⟩ := hh
   rw [if_pos ⟨rfl, rfl⟩]
   rw [hi] at ho
   cases ho
   rw [if_pos rfl] at h
   exact h T hT w b (Gr.refl w) hf hU
  ·rw [if_neg hh] at hok ⊢
   simp only [ho, Bool.and_eq_true, Bool.not_eq_true'] at hok
   obtain ⟨⟨hap, hst⟩, hok⟩ := hok
   obtain ⟨h1, h2, h3⟩ := Oper.apart_spec hap
   refine ⟨o, ho, ?_⟩
   by_cases hk : k = 2
   ·rw [if_pos hk] at h ⊢
    intro T1 hT1 w1 b1 g1 f1 n1
    have := ξ26 hi hT hsel hQ rest _ _ _ hok (hf.grow g1) (fun hb => hb.elim hU (fun e => n1 (.inr e.symm))) (h T1 hT1 w1 b1 g1 f1 (fun hb => n1 (.inl hb)))
    rw [Act.put_comm a (ptr b) (ptr b1) h2]
    exact ξ2D _ _ _ _ _ (fun x hx => by rcases hx with (hx | hx) | hx; exact .inl (.inl hx); exact .inr hx; exact .inl (.inr hx)) this
   ·rw [if_neg hk] at h ⊢
    rw [wanted_put o a oi.dst (ptr b) h1]
    by_cases hw : Region.wanted o (yielded ops a.tmps) = true
    ·rw [if_pos hw] at h ⊢
     by_cases hk1 : k = 1
     ·rw [if_pos hk1] at h ⊢
      obtain ⟨v, hv, h⟩ := h
      refine ⟨v, fun w' g => by rw [execOp_put o (fun cs b => hsel j o cs b ho) a oi.dst _ h1]; exact hv w' g, ?_⟩
      rw [Act.put_comm a (ptr b) v h2]
      exact ξ26 hi hT hsel hQ rest _ _ _ hok hf hU h
     ·rw [if_neg hk1] at h ⊢
      intro w1 g1
      refine ξ6P hap (fun cs b => hsel j o cs b ho) hQ (fun a' w' hr hk => ?_) (h w1 g1)
      exact ξ26 hi hT hsel hQ rest _ _ _ hok ((hf.grow g1).grow (hr hst)) hU hk
    ·rw [if_neg hw] at h ⊢
     rw [Act.put_comm a (ptr b) undef h2]
     exact ξ26 hi hT hsel hQ rest _ _ _ hok hf hU h
def okF (md : Region.Mode) (ops : Array Oper) : Nat → List (Nat × Nat) → Array Bool → Bool
 | 0, _, _ => false
 | _ + 1, [], listed => (Region.ready md ops listed).isEmpty
 | f + 1, (i, k) :: rest, listed => (Region.ready md ops listed).contains i &&
     if k = 1 then freeG md ops listed i && okF md ops f rest (listed.setIfInBounds i true)
     else okF md ops f rest (listed.setIfInBounds i true) && (k == 2 || !hasAlloc rest || (match ops[i]? with | some o => !isStore o | none => false)) &&
    (Region.ready md ops listed).all fun j => j == i || ((match ops[j]? with | some oj => earlyOK ops j oj ((i, k) :: rest) | none => false) && okF md ops f (eraseF j ((i, k) :: rest)) (listed.setIfInBounds j true))
theorem ξ4n {i : Nat} {oi : Oper} : ∀ (l : List (Nat × Nat)), earlyOK ops i oi l = true → (i, 2) ∈ l ∧ hasAlloc l = true
 | [], h => by simp [earlyOK] at h
 | (j, k) :: rest, h => by
  unfold earlyOK at h
  by_cases hh : j = i ∧ k = 2
  ·obtain ⟨rfl, rfl⟩ := hh; exact ⟨List.mem_cons_self, by simp [hasAlloc]⟩
  ·rw [if_neg hh] at h
   simp only [Bool.and_eq_true] at h
   obtain ⟨h1, h2⟩ := ξ4n rest h.2
   exact ⟨List.mem_cons_of_mem _ h1, by simp [hasAlloc, h2]⟩
theorem ξaG (hs : Region.noSelect ops = true) (hQ : ∀ c a d v w, Q (.panic c) (a.put d v) w → Q (.panic c) a w) (hQ' : ∀ c a d v w, Q (.panic c) a w → Q (.panic c) (a.put d v) w) :
  ∀ (n : Nat) (l : List (Nat × Nat)), l.length = n → ∀ (f : Nat) (listed : Array Bool) (U : Nat → Prop) (a : Act) (w : World), ξB md ops listed → okF md ops f l listed = true →
   (∀ i, (i, 2) ∈ l → ∃ o T, ops[i]? = some o ∧ o.guard = none ∧ o.op = .alloc T ∧ ξ3d P T (zc T)) → (hasAlloc l = true → ∀ b, U b → b < w.heap.size) →
   wpF P ops Q zc l U a w → wpAnyG P md ops Q n listed a w := by
 intro n
 induction n with
 | zero =>
  intro l hl f listed U a w hc hok hA hU h
  have : l = [] := List.eq_nil_of_length_eq_zero hl
  subst this
  cases f with
  | zero => simp [okF] at hok
  | succ f => exact ⟨by simpa [okF] using hok, h⟩
 | succ n ih =>
  intro l hl f listed U a w hc hok hA hU h
  match l, hl with
  | (i, k) :: rest, hl =>
  have hl' : rest.length = n := by simpa using hl
  have hA' : ∀ i, (i, 2) ∈ rest → ∃ o T, ops[i]? = some o ∧ o.guard = none ∧ o.op = .alloc T ∧ ξ3d P T (zc T) := fun i hi => hA i (List.mem_cons_of_mem _ hi)
  cases f with
  | zero => simp [okF] at hok
  | succ f =>
  have h0 := h
  obtain ⟨o, ho, h⟩ := h
  unfold okF at hok
  simp only [Bool.and_eq_true] at hok
  obtain ⟨hr, hok⟩ := hok
  have hr' : i ∈ Region.ready md ops listed := by simpa using hr
  by_cases hk1 : k = 1
  ·subst hk1
   have hU' : hasAlloc rest = true → ∀ b, U b → b < w.heap.size := fun hh => hU (by simp [hasAlloc, hh])
   rw [if_pos rfl, Bool.and_eq_true] at hok
   rw [if_neg (by omega)] at h
   by_cases hw : Region.wanted o (yielded ops a.tmps) = true
   ·rw [if_pos hw, if_pos rfl] at h
    obtain ⟨v, hv, h⟩ := h
    exact ξO ho (Region.noSelect_spec hs) hQ n listed a w hc (ξ0R ho hok.1) hr' (.mk hw hv) (ih rest hl' f _ U _ w (hc.set hr') hok.2 hA' hU' h)
   ·rw [if_neg hw] at h
    exact ξO ho (Region.noSelect_spec hs) hQ n listed a w hc (ξ0R ho hok.1) hr' (.inr ⟨by simpa using hw, rfl⟩) (ih rest hl' f _ U _ w (hc.set hr') hok.2 hA' hU' h)
  ·rw [if_neg hk1] at hok
   simp only [Bool.and_eq_true, List.all_eq_true] at hok
   obtain ⟨⟨hok, hst⟩, hall⟩ := hok
   refine ⟨fun hn => (by rw [hn] at hr'; cases hr'), fun j hj => ?_⟩
   by_cases hji : j = i
   ·subst hji
    unfold gOp wpOp
    simp only [ho]
    by_cases hk : k = 2
    ·subst hk
     rw [if_pos rfl] at h
     obtain ⟨o', T, ho', hg, hT, hAl⟩ := hA j List.mem_cons_self
     rw [ho] at ho'; cases ho'
     rw [if_pos (by simp [Region.wanted, hg])]
     refine .inl ?_
     unfold Oper.wp
     rw [ξ4Y hT hAl]
     simp only [Oper.upon]
     have g1 : Gr w (w.alloc (.cells (zc T) T)) := (Gr.refl w).alloc _
     refine ⟨fun _ _ _ => g1, ih rest hl' f _ _ _ _ (hc.set hr') hok hA' (fun hh b hb => ?_) (h T hT _ _ g1 (ξo.new _ _ w) (fun hb => ?_))⟩
     ·rw [World.size_alloc]
      rcases hb with hb | hb
      ·have := hU (by simp [hasAlloc]) b hb; omega
      ·omega
     ·have := hU (by simp [hasAlloc]) _ hb; omega
    ·rw [if_neg hk] at h
     by_cases hw : Region.wanted o (yielded ops a.tmps) = true
     ·rw [if_pos hw, if_neg hk1] at h
      rw [if_pos hw]
      refine .inl (Oper.wp_mono (fun a' w' hkk => ⟨fun o' ho' => ?_, ?_⟩) (h w (Gr.refl w)))
      ·cases ho'; exact hkk.1
      ·refine ih rest hl' f _ U a' w' (hc.set hr') hok hA' (fun hh b hb => ?_) hkk.2
       have h1 := hU (by simp [hasAlloc, hh]) b hb
       have h2 : isStore o = false := by simpa [hk, hh, ho] using hst
       exact Nat.lt_of_lt_of_le h1 (hkk.1 h2).size
     ·rw [if_neg hw] at h
      rw [if_neg hw]
      exact ⟨fun _ _ => relOf.refl _ _, ih rest hl' f _ U _ w (hc.set hr') hok hA' (fun hh => hU (by simp [hasAlloc, hh])) h⟩
   ·have hj2 := hall j hj
    simp only [Bool.or_eq_true, beq_iff_eq, hji, false_or, Bool.and_eq_true] at hj2
    obtain ⟨he, hokj⟩ := hj2
    cases hoj : ops[j]? with
    | none => simp [hoj] at he
    | some oj =>
     simp only [hoj] at he
     obtain ⟨hmem, hhas⟩ := ξ4n _ he
     obtain ⟨oj', T, hoj', hg, hT, hAl⟩ := hA j hmem
     rw [hoj] at hoj'; cases hoj'
     unfold gOp wpOp
     simp only [hoj]
     rw [if_pos (by simp [Region.wanted, hg])]
     refine .inl ?_
     unfold Oper.wp
     rw [ξ4Y hT hAl]
     simp only [Oper.upon]
     have g1 : Gr w (w.alloc (.cells (zc T) T)) := (Gr.refl w).alloc _
     have hnU : ¬ U w.heap.size := fun hb => by have := hU hhas _ hb; omega
     have hE := ξ26 hoj hT (Region.noSelect_spec hs) hQ' _ U a _ he (ξo.new (zc T) T w) hnU (ξ4J _ U a w _ hhas g1 h0)
     have hlen := ξ3G _ he
     refine ⟨fun _ _ _ => g1, ih (eraseF j ((i, k) :: rest)) (by omega) f _ _ _ _ (hc.set hj) hokj (fun i' hi' => hA i' (ξ2j _ _ hi')) (fun _ b hb => ?_) hE⟩
     rw [World.size_alloc]
     rcases hb with hb | hb
     ·have := hU hhas b hb; omega
     ·omega
theorem ξ3e {id : Nat} {a : Act} {w : World} (zc : TypeId → Array Value) (f : Nat) (order : List (Nat × Nat)) (hm : P.follows .mixedOrders = true) (hs : Region.noSelect ops = true)
  (hn : order.length = ops.size) (hB : okF .any ops f order (Array.replicate ops.size false) = true) (hQ : ∀ c a d v w, Q (.panic c) (a.put d v) w → Q (.panic c) a w) (hQ' : ∀ c a d v w, Q (.panic c) a w → Q (.panic c) (a.put d v) w)
  (hA : ∀ i, (i, 2) ∈ order → ∃ o T, ops[i]? = some o ∧ o.guard = none ∧ o.op = .alloc T ∧ ξ3d P T (zc T))
  (h : wpF P ops Q zc order (fun b => b < w.heap.size) a w.drew) : (Code.region id ops true).wp P Q a w := by
 refine wp_region_any hm (ξ0u _ _ _ _ ?_)
 have := ξaG (md := .any) hs hQ hQ' order.length order rfl f (Array.replicate ops.size false) (fun b => b < w.heap.size) a w.drew
  (fun j o _ hl => by simp [Array.getElem?_replicate] at hl; split at hl <;> simp at hl) hB hA (fun _ b hb => hb) h
 rw [hn] at this
 exact this
variable {rest : List (Nat × Nat)} {U : Nat → Prop} {a : Act} {w : World} {o : Oper} {i : Nat}
theorem ξ8e (h : Q .normal a w) : wpF P ops Q zc [] U a w := h
theorem ξ1p {wb : World} (hb : Gr wb w) (ho : ops[i]? = some o) (hw : Region.wanted o (yielded ops a.tmps) = true) {v : Value} (hv : ∀ w', Gr wb w' → (execOp a.eval o).run P w' = .ok (.value v) w')
  (h : ∀ K : Act → World → Prop, (∀ a w, wpF P ops Q zc rest U a w → K a w) → K (a.put o.dst v) w) : wpF P ops Q zc ((i, 1) :: rest) U a w :=
 ⟨o, ho, by rw [if_neg (by omega), if_pos hw, if_pos rfl]; exact ⟨v, fun w' hg => hv w' (hb.trans hg), h _ (fun _ _ h => h)⟩⟩
theorem ξ2b (ho : ops[i]? = some o) (hw : Region.wanted o (yielded ops a.tmps) = true)
  (h : ∀ K : Act → World → Prop, (∀ a w, wpF P ops Q zc rest U a w → K a w) → ∀ w1, Gr w w1 → Oper.wp P o a w1 (fun a' w' => relOf o w1 w' ∧ K a' w') Q) : wpF P ops Q zc ((i, 0) :: rest) U a w :=
 ⟨o, ho, by rw [if_neg (by omega), if_pos hw, if_neg (by omega)]; exact h _ (fun _ _ h => h)⟩
theorem ξ46 {T : TypeId} (ho : ops[i]? = some o) (hT : o.op = .alloc T)
  (h : ∀ K : Act → World → Prop, ∀ w1 b, Gr w w1 → ξo (zc T) T b w1 → ¬ U b → (∀ a w, wpF P ops Q zc rest (fun x => U x ∨ x = b) a w → K a w) → K (a.put o.dst (.pointer (some ⟨b, 0, none⟩))) w1) : wpF P ops Q zc ((i, 2) :: rest) U a w :=
 ⟨o, ho, by rw [if_pos rfl]; intro T' hT' w1 b g f n; rw [hT] at hT'; cases hT'; exact h _ w1 b g f n (fun _ _ h => h)⟩
end
end Go.Proofs.YtcjgimlcefhhmaaGreatDoor
namespace Go.Proofs.YtcjgimlcefhhmaaGreatDoor
open Go.RowKit
def Hold (p : Prop) : Prop := p
theorem Hold.hold {p : Prop} (h : Hold p) : p := h
theorem Hold.go {p : Prop} (h : p) : Hold p := h
def SlV (w : World) (sz : Nat) (v : Value) (n : Nat) (xs : List Value) : Prop :=
 xs.length = n * sz ∧ ∃ p c, v = .slice p n c ∧ n ≤ c ∧ c ≤ 9223372036854775807 ∧ (c = 0 ∨ ∃ b o, p = some ⟨b, o, none⟩ ∧ ∀ j u, xs[j]? = some u → w.cell? ⟨b, o + j, none⟩ = some u)
theorem SlV.grow {w w' : World} {sz n : Nat} {v : Value} {xs : List Value} (h : SlV w sz v n xs) (g : Gr w w') : SlV w' sz v n xs := by
 obtain ⟨h0, p, c, rfl, h1, h2, h3⟩ := h
 refine ⟨h0, p, c, rfl, h1, h2, ?_⟩
 rcases h3 with h3 | ⟨b, o, hp, hc⟩
 ·exact .inl h3
 ·exact .inr ⟨b, o, hp, fun j u hu => g.cell (hc j u hu)⟩
theorem SlV.parts {w : World} {sz n : Nat} {v : Value} {xs : List Value} (h : SlV w sz v n xs) : ∃ p c, v = .slice p n c ∧ n ≤ c ∧ c ≤ 9223372036854775807 := by
 obtain ⟨-, p, c, hv, h1, h2, -⟩ := h
 exact ⟨p, c, hv, h1, h2⟩
theorem SlV.cells {w : World} {sz n c : Nat} {p : Option Addr} {xs : List Value} (h : SlV w sz (.slice p n c) n xs) (hn : 0 < n) : ∃ b o, p = some ⟨b, o, none⟩ ∧ ∀ j u, xs[j]? = some u → w.cell? ⟨b, o + j, none⟩ = some u := by
 obtain ⟨h0, p', c', hv, h1, h2, h3⟩ := h
 cases hv
 rcases h3 with h3 | h3
 ·omega
 ·exact h3
theorem SlV.nil (w : World) (sz : Nat) : SlV w sz (.slice none 0 0) 0 [] := ⟨by simp, none, 0, rfl, Nat.le_refl _, by decide, .inl rfl⟩
theorem ξ13 (b o i : Nat) : (⟨b, o, none⟩ : Addr).add i = ⟨b, o + i, none⟩ := by
 cases i <;> simp [Addr.add]
theorem SlV.of_own {w : World} {base : Nat} {e : TypeId} {sz n : Nat} {v : Value} {xs : List Value} (h : w.ownsRow base e sz v n xs) : SlV w sz v n xs := by
 have h' := h
 obtain ⟨h1, h2⟩ := h
 refine ⟨h1, ?_⟩
 rcases h2 with ⟨rfl, rfl⟩ | ⟨g, cap, cur, rfl, hb, hh, hn, hm, hs, ht⟩
 ·exact ⟨none, 0, rfl, Nat.le_refl _, by decide, .inl rfl⟩
 ·refine ⟨_, cap, rfl, hn, by simpa [maxLen] using hm, .inr ⟨g, 0, rfl, fun j u hu => ?_⟩⟩
  have := World.ownsRow.cells h' (g := g) rfl j u hu
  rwa [ξ13] at this
theorem SlV.new (w : World) (sz n : Nat) (vs : Array Value) (t : TypeId) (h : vs.size = n * sz) (hn : n ≤ 1000000000) : SlV (w.alloc (.cells vs t)) sz (.slice (some ⟨w.heap.size, 0, none⟩) n n) n vs.toList :=
 ⟨by simpa using h, _, n, rfl, Nat.le_refl _, by omega, .inr ⟨w.heap.size, 0, rfl, fun j u hu => by
  unfold World.cell?
  rw [show (⟨w.heap.size, 0 + j, none⟩ : Addr).block = w.heap.size from rfl, heap_alloc_new]
  simpa using hu⟩⟩
theorem ξcD {a w w' : World} {e : TypeId} {sz n : Nat} {v : Value} {xs : List Value} (g : Gr a w) (h : w.ownsRow a.heap.size e sz v n xs) (hg : w.grownBy w' v.ownBlock) : Gr a w' :=
 Below.grown g hg g.size (fun k hk => (h.lt k hk).1)
theorem ξaP {w w' : World} {base : Nat} {e : TypeId} {sz n : Nat} {v : Value} {xs : List Value} (h : w.ownsRow base e sz v n xs) (g : Gr w w') : w'.ownsRow base e sz v n xs := by
 refine h.kept (row := none) ⟨g.os, g.tape, g.output, g.size, fun k hk _ => Below.block g k hk⟩ ?_
 cases v.ownBlock <;> simp
end Go.Proofs.YtcjgimlcefhhmaaGreatDoor
namespace Go.Proofs.YtcjgimlcefhhmaaGreatDoor.LateL
open Go.RowKit
section
variable {P : Program} {ops : Array Oper} {md : Region.Mode} {Q : Exit → Act → World → Prop} {B : World → Prop} {zc : TypeId → Array Value}
def ξX (P : Program) (ops : Array Oper) (B : World → Prop) (o : Oper) (v : Value) (a : Act) : Prop :=
 (Region.wanted o (yielded ops a.tmps) = true ∧ ∀ w', B w' → (execOp a.eval o).run P w' = .ok (.value v) w') ∨
 (Region.wanted o (yielded ops a.tmps) = false ∧ v = undef)
theorem ξX.of_same {o : Oper} {v : Value} {a a' : Act} (hy : ξX P ops B o v a) (he : execOp a'.eval o = execOp a.eval o)
  (hw : Region.wanted o (yielded ops a'.tmps) = Region.wanted o (yielded ops a.tmps)) : ξX P ops B o v a' := by
 unfold ξX at *
 rw [he, hw]
 exact hy
def freeJ (md : Region.Mode) (ops : Array Oper) (listed : Array Bool) (i : Nat) : Bool :=
 match ops[i]? with
 | none => false
 | some oi =>
  (List.range ops.size).all fun j => j == i || listed.getD j true || match ops[j]? with
   | some oj => oi.apart ops oj || (waitsGo md i ops.toList #[]).getD j false
   | none => true
theorem ξ0x {i : Nat} {oi : Oper} {listed : Array Bool} (hi : ops[i]? = some oi) (h : freeJ md ops listed i = true) (j : Nat) (oj : Oper)
  (hj : ops[j]? = some oj) (hne : j ≠ i) (hun : listed.getD j true = false) (hno : ¬ ξA md ops i j) : oi.apart ops oj = true := by
 simp only [freeJ, hi, List.all_eq_true, List.mem_range] at h
 have h1 := h j (Array.getElem?_eq_some_iff.1 hj).1
 simp only [hj, Bool.or_eq_true, beq_iff_eq, hne, false_or, hun, Bool.false_eq_true] at h1
 rcases h1 with h1 | h1
 ·exact h1
 ·exact absurd (ξ0G (md := md) (ops := ops) (i := i) ops.toList #[] (by simp) (by simp) j h1) hno
variable {rest : List (Nat × Nat)} {U : Nat → Prop} {a : Act} {w : World} {o : Oper} {i : Nat}
end
end Go.Proofs.YtcjgimlcefhhmaaGreatDoor.LateL

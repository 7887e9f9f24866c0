/-
 The base of these proofs: worlds that only grow (Gr), what a call hands back (Ret), and a rule for a region that draws its order: reads are taken first, effects come in their forced order.
-/
import Derived.WalkKit
import Derived.BigQuiet
import Derived.Deep.QuietTactic
import Derived.Lib.Hide
import Derived.WalkSpells
namespace Go.Proofs.YtnlocdijdfclcaaGreatDoor
set_option linter.unusedSimpArgs false
open Go.RowKit
set_option linter.unusedVariables false

def Gr (w w' : World) : Prop := Below w.heap.size w w'
theorem Gr.refl (w : World) : Gr w w := Below.refl _ _
theorem Gr.trans {a b c : World} (h : Gr a b) (k : Gr b c) : Gr a c := Below.trans h (Below.mono k h.size)
theorem Gr.drewN {a b : World} (h : Gr a b) (n : Nat) : Gr a (b.drewN n) := ⟨h.os, h.tape, h.output, h.size, h.block⟩
theorem Gr.drew {a b : World} (h : Gr a b) : Gr a b.drew := h.drewN 1
theorem Gr.size {a b : World} (h : Gr a b) : a.heap.size ≤ b.heap.size := Below.size h
theorem Gr.alloc {a b : World} (h : Gr a b) (o : Obj) : Gr a (b.alloc o) := Below.alloc h h.size o
theorem Gr.cell {a b : World} (h : Gr a b) {p : Addr} {v : Value} (hc : a.cell? p = some v) : b.cell? p = some v := by
 rw [Below.cell h (World.block_lt_of_cell? a _ hc)]; exact hc
def Ret (w : World) (S : Value → World → Prop) (e : Ending) (w' : World) : Prop := ∃ v, e = .returned v ∧ Gr w w' ∧ S v w'

theorem Ret.mk {w w' : World} {S : Value → World → Prop} {v : Value} (hg : Gr w w') (hs : S v w') : Ret w S (.returned v) w' := ⟨v, rfl, hg, hs⟩

section region
variable {P : Program} {ops : Array Oper} {md : Region.Mode} {Q : Exit → Act → World → Prop}

def isStore (o : Oper) : Bool := match o.op with
 | .store .. | .insert .. | .mapUpdate .. | .entryStore .. => true
 | _ => false

def relOf (o : Oper) (w w' : World) : Prop := isStore o = false → Gr w w'
theorem relOf.refl (o : Oper) (w : World) : relOf o w w := fun _ => Gr.refl w

def gOp (P : Program) (ops : Array Oper) (Q : Exit → Act → World → Prop) (i : Nat) (K : Act → World → Prop) (a : Act) (w : World) : Prop :=
 wpOp P ops Q i (fun a' w' => (∀ o, ops[i]? = some o → relOf o w w') ∧ K a' w') a w

def wpAnyG (P : Program) (md : Region.Mode) (ops : Array Oper) (Q : Exit → Act → World → Prop) : Nat → Array Bool → Act → World → Prop
 | 0, listed, a, w => Region.ready md ops listed = [] ∧ Q .normal a w
 | fuel + 1, listed, a, w =>
  (Region.ready md ops listed = [] → Q .normal a w) ∧
  ∀ i ∈ Region.ready md ops listed, gOp P ops Q i (wpAnyG P md ops Q fuel (listed.setIfInBounds i true)) a w

theorem wpAny_of_G : ∀ (fuel : Nat) (listed : Array Bool) (a : Act) (w : World), wpAnyG P md ops Q fuel listed a w → wpAny P md ops Q fuel listed a w
 | 0, _, _, _, h => h
 | fuel + 1, _, _, _, h => ⟨h.1, fun i hi => wpOp_mono (fun a' w' hk => wpAny_of_G fuel _ a' w' hk.2) (h.2 i hi)⟩

def pureOp (o : Oper) : Bool := match o.op with
 | .extract (.tmp _) _ => true
 | _ => false

theorem pureOp.any {P : Program} {ρ : Operand → Value} {o : Oper} (h : pureOp o = true) {v : Value} {w : World} (hv : (execOp ρ o).run P w = .ok (.value v) w) (w' : World) : (execOp ρ o).run P w' = .ok (.value v) w' := by
 unfold pureOp at h
 split at h
 ·rename_i t i he
  unfold execOp at hv ⊢
  simp only [he] at hv ⊢
  unfold Instr.extract at hv ⊢
  split at hv <;> simp_all [go_sem]
  split at hv <;> simp_all [go_sem]
 ·cases h

def YieldsG (P : Program) (ops : Array Oper) (o : Oper) (v : Value) (a : Act) (w : World) : Prop :=
 (Region.wanted o (yielded ops a.tmps) = true ∧ ∀ w', Gr w w' ∨ pureOp o = true → (execOp a.eval o).run P w' = .ok (.value v) w') ∨
 (Region.wanted o (yielded ops a.tmps) = false ∧ v = undef)

theorem YieldsG.mk {o : Oper} {v : Value} {a : Act} {w : World} (hw : Region.wanted o (yielded ops a.tmps) = true) (hv : ∀ w', Gr w w' → (execOp a.eval o).run P w' = .ok (.value v) w') : YieldsG P ops o v a w :=
 .inl ⟨hw, fun w' h => h.elim (hv w') fun h => pureOp.any h (hv w (Gr.refl w)) w'⟩

theorem YieldsG.grow {o : Oper} {v : Value} {a : Act} {w w' : World} (hy : YieldsG P ops o v a w) (hg : Gr w w' ∨ pureOp o = true) : YieldsG P ops o v a w' := by
 rcases hy with ⟨h1, h2⟩ | h
 ·exact .inl ⟨h1, fun w'' h' => h2 w'' (h'.elim (fun h' => hg.imp (fun g => g.trans h') id) .inr)⟩
 ·exact .inr h

theorem YieldsG.of_same {o : Oper} {v : Value} {a a' : Act} {w : World} (hy : YieldsG P ops o v a w) (he : execOp a'.eval o = execOp a.eval o)
  (hw : Region.wanted o (yielded ops a'.tmps) = Region.wanted o (yielded ops a.tmps)) : YieldsG P ops o v a' w := by
 unfold YieldsG at *
 rw [he, hw]
 exact hy

theorem YieldsG.gOp {i : Nat} {o : Oper} {v : Value} {a : Act} {w : World} (hi : ops[i]? = some o) (hy : YieldsG P ops o v a w)
  {K : Act → World → Prop} (h : K (a.put o.dst v) w) : gOp P ops Q i K a w := by
 unfold Proofs.YtnlocdijdfclcaaGreatDoor.gOp wpOp
 simp only [hi]
 have hr : ∀ o_1 : Oper, some o = some o_1 → relOf o_1 w w := fun _ _ => relOf.refl _ _
 rcases hy with ⟨hw, hv⟩ | ⟨hw, rfl⟩
 ·simp only [hw, if_true, Oper.wp, hv w (.inl (Gr.refl w)), Oper.upon]; exact .inl ⟨hr, h⟩
 ·simp only [hw, Bool.false_eq_true, if_false]; exact ⟨hr, h⟩

theorem gOp_put {j : Nat} {oi oj : Oper} {v : Value} (hj : ops[j]? = some oj) (hap : oi.apart ops oj = true) (hst : isStore oj = false ∨ pureOp oi = true)
  (hsi : ∀ cs b, oi.op ≠ .select cs b) (hsj : ∀ cs b, oj.op ≠ .select cs b)
  (hQ : ∀ c a d v w, Q (.panic c) (a.put d v) w → Q (.panic c) a w) {K : Act → World → Prop} {a : Act} {w : World}
  (hy : YieldsG P ops oi v a w) (h : gOp P ops Q j K (a.put oi.dst v) w) :
  gOp P ops Q j (fun a' w' => YieldsG P ops oi v a' w' ∧ K (a'.put oi.dst v) w') a w := by
 obtain ⟨h1, h2, h3⟩ := Oper.apart_spec hap
 have keep : ∀ (a : Act) (w : World), YieldsG P ops oi v a w → ∀ u, YieldsG P ops oi v (a.put oj.dst u) w := fun a w hy u =>
  hy.of_same (execOp_put oi hsi a oj.dst u h3) (wanted_put oi a oj.dst u h3)
 have keepD : ∀ d w, YieldsG P ops oi v a w → YieldsG P ops oi v { a with defers := d :: a.defers } w := fun d w hy => hy.of_same rfl rfl
 unfold gOp wpOp at *
 simp only [hj] at *
 rw [wanted_put oj a oi.dst v h1] at h
 split
 ·rename_i hw
  simp only [hw, if_true] at h
  rcases h with h | ⟨hasks, hlets⟩
  case inr => exact .inr ⟨by unfold Oper.asks at *; rw [execOp_put oj hsj a oi.dst v h1] at hasks; exact hasks, hlets⟩
  refine .inl ?_
  unfold Oper.wp at *
  rw [execOp_put oj hsj a oi.dst v h1] at h
  generalize (execOp a.eval oj).run P w = r at *
  cases r with
  | ok n w' =>
   cases n <;> simp only [Oper.upon] at h ⊢
   case value u => exact ⟨h.1, keep a w' (hy.grow (hst.imp (h.1 oj rfl) id)) u, by rw [← Act.put_comm a v u h2]; exact h.2⟩
   case skip => exact ⟨h.1, keep a w' (hy.grow (hst.imp (h.1 oj rfl) id)) _, by rw [← Act.put_comm a v undef h2]; exact h.2⟩
   case defer d =>
    refine ⟨h.1, keep _ w' (keepD d w' (hy.grow (hst.imp (h.1 oj rfl) id))) _, ?_⟩
    rw [← Act.put_comm _ v undef h2, ← Act.put_defers]
    exact h.2
   case enter f args =>
    refine Calls.mono h fun e w'' he => ?_
    cases e with
    | returned u => exact ⟨he.1, keep a w'' (hy.grow (hst.imp (he.1 oj rfl) id)) u, by rw [← Act.put_comm a v u h2]; exact he.2⟩
    | panicked c => exact hQ _ _ _ _ _ he
    | outgrown => exact he
   case row row args => exact Rows.mono h fun u w'' he => ⟨he.1, keep a w'' (hy.grow (hst.imp (he.1 oj rfl) id)) u, by rw [← Act.put_comm a v u h2]; exact he.2⟩
  | halt x w' =>
   cases x <;> simp only [Oper.upon] at h ⊢
   case panic u => exact hQ _ _ _ _ _ h
 ·rename_i hw
  simp only [hw] at h
  exact ⟨h.1, keep a w (hy) _, by rw [← Act.put_comm a v undef h2]; exact h.2⟩

theorem gOp_mono {i : Nat} {a : Act} {w : World} {K K' : Act → World → Prop} (h : ∀ a w, K a w → K' a w)
  (hh : gOp P ops Q i K a w) : gOp P ops Q i K' a w := wpOp_mono (fun a w hk => ⟨hk.1, h a w hk.2⟩) hh

def Closed (md : Region.Mode) (ops : Array Oper) (listed : Array Bool) : Prop :=
 ∀ j o, ops[j]? = some o → listed.getD j false = true → ∀ e ∈ o.after, Region.binds md e = true → listed.getD e.on false = true

theorem Closed.set {listed : Array Bool} {i : Nat} (hc : Closed md ops listed) (hr : i ∈ Region.ready md ops listed) : Closed md ops (listed.setIfInBounds i true) := by
 intro j o hj hl e he hb
 refine getD_set_true ?_
 obtain ⟨_, oi, hoi, hall⟩ := mem_ready.1 hr
 by_cases hji : i = j
 ·subst hji; rw [hj] at hoi; cases hoi; exact hall e he hb
 ·rw [getD_set_ne false hji] at hl; exact hc j o hj hl e he hb

inductive Waits (md : Region.Mode) (ops : Array Oper) (i : Nat) : Nat → Prop
 | base {j : Nat} {o : Oper} {e : Edge} (hj : ops[j]? = some o) (he : e ∈ o.after) (hb : Region.binds md e = true) (h : e.on = i) : Waits md ops i j
 | step {j : Nat} {o : Oper} {e : Edge} (hj : ops[j]? = some o) (he : e ∈ o.after) (hb : Region.binds md e = true) (h : Waits md ops i e.on) : Waits md ops i j

theorem Waits.listed {listed : Array Bool} {i j : Nat} (hc : Closed md ops listed) (h : Waits md ops i j) (hl : listed.getD j false = true) : listed.getD i false = true := by
 induction h with
 | base hj he hb h => subst h; exact hc _ _ hj hl _ he hb
 | step hj he hb h ih => exact ih (hc _ _ hj hl _ he hb)

theorem Waits.not_ready {listed : Array Bool} {i j : Nat} (hc : Closed md ops listed) (hi : i ∈ Region.ready md ops listed) (hj : j ∈ Region.ready md ops listed) : ¬ Waits md ops i j := by
 intro h
 obtain ⟨hu, _⟩ := mem_ready.1 hi
 obtain ⟨_, o', hoj, hall⟩ := mem_ready.1 hj
 have key : listed.getD i false = true := by
  cases h with
  | base hj he hb h => rw [hj] at hoj; cases hoj; subst h; exact hall _ he hb
  | step hj he hb h => rw [hj] at hoj; cases hoj; exact h.listed hc (hall _ he hb)
 rcases Nat.lt_or_ge i listed.size with h' | h'
 ·simp [h'] at hu key; rw [hu] at key; cases key
 ·simp [Array.getElem?_eq_none h'] at hu

theorem wpAnyG_first {i : Nat} {oi : Oper} {v : Value} (hi : ops[i]? = some oi) (hsel : ∀ (j : Nat) (o : Oper) cs b, ops[j]? = some o → o.op ≠ .select cs b)
  (hQ : ∀ c a d v w, Q (.panic c) (a.put d v) w → Q (.panic c) a w) :
  ∀ (fuel : Nat) (listed : Array Bool) (a : Act) (w : World), Closed md ops listed →
   (∀ j oj, ops[j]? = some oj → j ≠ i → listed.getD j true = false → ¬ Waits md ops i j → oi.apart ops oj = true ∧ (isStore oj = false ∨ pureOp oi = true)) →
   i ∈ Region.ready md ops listed → YieldsG P ops oi v a w →
   wpAnyG P md ops Q fuel (listed.setIfInBounds i true) (a.put oi.dst v) w → wpAnyG P md ops Q (fuel + 1) listed a w := by
 intro fuel
 induction fuel with
 | zero =>
  intro listed a w _ _ hr hy H
  refine ⟨fun h => (by rw [h] at hr; cases hr), fun j hj => ?_⟩
  by_cases hji : j = i
  ·subst hji; exact hy.gOp hi H
  ·have := ready_mono hj hji
   rw [H.1] at this
   cases this
 | succ fuel ih =>
  intro listed a w hc hfree hr hy H
  refine ⟨fun h => (by rw [h] at hr; cases hr), fun j hj => ?_⟩
  by_cases hji : j = i
  ·subst hji; exact hy.gOp hi H
  ·have h1 := H.2 j (ready_mono hj hji)
   obtain ⟨hjun, oj, hoj, hall⟩ := mem_ready.1 hj
   obtain ⟨hap, hst⟩ := hfree j oj hoj hji hjun (Waits.not_ready hc hr hj)
   have h2 := gOp_put hoj hap hst (fun cs b => hsel i oi cs b hi) (fun cs b => hsel j oj cs b hoj) hQ hy h1
   have hfree' : ∀ k ok, ops[k]? = some ok → k ≠ i → (listed.setIfInBounds j true).getD k true = false →
     ¬ Waits md ops i k → oi.apart ops ok = true ∧ (isStore ok = false ∨ pureOp oi = true) := fun k ok hk hki hun hno => by
    refine hfree k ok hk hki ?_ hno
    by_cases hjk : j = k
    ·subst hjk; exact hjun
    ·rw [getD_set_ne true hjk] at hun; exact hun
   refine gOp_mono (fun a' w' h3 => ih (listed.setIfInBounds j true) a' w' (hc.set hj) hfree' (ready_mono hr (Ne.symm hji)) h3.1 ?_) h2
   rw [Array.setIfInBounds_comm _ _ hji]
   exact h3.2

def wpE (P : Program) (ops : Array Oper) (Q : Exit → Act → World → Prop) : List (Nat × Bool) → Act → World → Prop
 | [], a, w => Q .normal a w
 | (i, r) :: rest, a, w => ∃ o, ops[i]? = some o ∧
   if Region.wanted o (yielded ops a.tmps) = true then
    (if r = true then ∃ v, (∀ w', Gr w w' → (execOp a.eval o).run P w' = .ok (.value v) w') ∧ wpE P ops Q rest (a.put o.dst v) w
     else Oper.wp P o a w (fun a' w' => relOf o w w' ∧ wpE P ops Q rest a' w') Q)
   else wpE P ops Q rest (a.put o.dst undef) w

def waitsGo (md : Region.Mode) (i : Nat) : List Oper → Array Bool → Array Bool
 | [], acc => acc
 | o :: l, acc => waitsGo md i l (acc.push (o.after.any fun e => Region.binds md e && (e.on == i || acc.getD e.on false)))

theorem waitsGo_spec {i : Nat} : ∀ (l : List Oper) (acc : Array Bool), (∀ j, l[j]? = ops[acc.size + j]?) → (∀ j, acc.getD j false = true → Waits md ops i j) →
  ∀ j, (waitsGo md i l acc).getD j false = true → Waits md ops i j
 | [], _, _, hacc => hacc
 | o :: l, acc, hl, hacc => by
  refine waitsGo_spec l _ (fun j => ?_) (fun j hj => ?_)
  ·have := hl (j + 1)
   simpa [Nat.add_assoc, Nat.add_comm 1 j] using this
  ·by_cases h : j = acc.size
   ·subst h
    simp only [Array.getD_eq_getD_getElem?, Array.getElem?_push_size, Option.getD_some] at hj
    obtain ⟨e, he, hb⟩ := Array.any_eq_true'.1 hj
    simp only [Bool.and_eq_true, Bool.or_eq_true, beq_iff_eq] at hb
    have h0 : ops[acc.size]? = some o := by simpa using (hl 0).symm
    rcases hb.2 with h | h
    ·exact .base h0 he hb.1 h
    ·exact .step h0 he hb.1 (hacc _ (by simpa [Array.getD_eq_getD_getElem?] using h))
   ·refine hacc j ?_
    simpa [Array.getD_eq_getD_getElem?, Array.getElem?_push, h] using hj

def freeG (md : Region.Mode) (ops : Array Oper) (listed : Array Bool) (i : Nat) : Bool :=
 match ops[i]? with
 | none => false
 | some oi =>
  (List.range ops.size).all fun j => j == i || listed.getD j true || match ops[j]? with
   | some oj => (oi.apart ops oj && (!isStore oj || pureOp oi)) || (waitsGo md i ops.toList #[]).getD j false
   | none => true

theorem freeG_spec {i : Nat} {oi : Oper} {listed : Array Bool} (hi : ops[i]? = some oi) (h : freeG md ops listed i = true) (j : Nat) (oj : Oper)
  (hj : ops[j]? = some oj) (hne : j ≠ i) (hun : listed.getD j true = false) (hno : ¬ Waits md ops i j) :
  oi.apart ops oj = true ∧ (isStore oj = false ∨ pureOp oi = true) := by
 simp only [freeG, hi, List.all_eq_true, List.mem_range] at h
 have h1 := h j (Array.getElem?_eq_some_iff.1 hj).1
 simp only [hj, Bool.or_eq_true, beq_iff_eq, hne, false_or, hun, Bool.false_eq_true] at h1
 rcases h1 with h1 | h1
 ·simpa using h1
 ·exact absurd (waitsGo_spec (md := md) (ops := ops) (i := i) ops.toList #[] (by simp) (by simp) j h1) hno

end region

section steps
variable {P : Program} {ops : Array Oper} {Q : Exit → Act → World → Prop} {i : Nat} {rest : List (Nat × Bool)} {a : Act} {w : World} {o : Oper}

theorem wpE_nil (h : Q .normal a w) : wpE P ops Q [] a w := h

theorem wpE_readB {wb : World} (hb : Gr wb w) (ho : ops[i]? = some o) (hw : Region.wanted o (yielded ops a.tmps) = true) {v : Value} (hv : ∀ w', Gr wb w' → (execOp a.eval o).run P w' = .ok (.value v) w')
  (h : ∀ K : Act → World → Prop, (∀ a w, wpE P ops Q rest a w → K a w) → K (a.put o.dst v) w) : wpE P ops Q ((i, true) :: rest) a w :=
 ⟨o, ho, by rw [if_pos hw, if_pos rfl]; exact ⟨v, fun w' hg => hv w' (hb.trans hg), h _ (fun _ _ h => h)⟩⟩

theorem wpE_do (ho : ops[i]? = some o) (hw : Region.wanted o (yielded ops a.tmps) = true)
  (h : ∀ K : Act → World → Prop, (∀ a w, wpE P ops Q rest a w → K a w) → Oper.wp P o a w (fun a' w' => relOf o w w' ∧ K a' w') Q) : wpE P ops Q ((i, false) :: rest) a w :=
 ⟨o, ho, by rw [if_pos hw, if_neg (by simp)]; exact h _ (fun _ _ h => h)⟩

theorem wpE_skip {r : Bool} (ho : ops[i]? = some o) (hw : Region.wanted o (yielded ops a.tmps) = false) (h : wpE P ops Q rest (a.put o.dst undef) w) : wpE P ops Q ((i, r) :: rest) a w :=
 ⟨o, ho, by rw [if_neg (by simp [hw])]; exact h⟩
end steps

end Go.Proofs.YtnlocdijdfclcaaGreatDoor

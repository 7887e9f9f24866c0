/-
 A region that draws its order, keeps a property of worlds, and in which new variables are laid (alloc) at any time: what is read is the same in every world with this property; what a call has made is apart from the new variables.
-/
import Derived.Test.YtchpbaaabnkkkaaGreatDoorEarly
namespace Go.Proofs.YtchpbaaabnkkkaaGreatDoor.LateL
open Go.RowKit
set_option linter.unusedVariables false
set_option linter.unusedSimpArgs false

section
variable {P : Program} {ops : Array Oper} {md : Region.Mode} {Q : Exit → Act → World → Prop} {B : World → Prop} {zc : TypeId → Array Value}

def gOpB (P : Program) (ops : Array Oper) (Q : Exit → Act → World → Prop) (B : World → Prop) (i : Nat) (K : Act → World → Prop) (a : Act) (w : World) : Prop :=
 wpOp P ops Q i (fun a' w' => (∀ o, ops[i]? = some o → relOf o w w') ∧ B w' ∧ K a' w') a w
def wpAnyGB (P : Program) (md : Region.Mode) (ops : Array Oper) (Q : Exit → Act → World → Prop) (B : World → Prop) : Nat → Array Bool → Act → World → Prop
 | 0, listed, a, w => Region.ready md ops listed = [] ∧ Q .normal a w
 | fuel + 1, listed, a, w =>
  (Region.ready md ops listed = [] → Q .normal a w) ∧
  ∀ i ∈ Region.ready md ops listed, gOpB P ops Q B i (wpAnyGB P md ops Q B fuel (listed.setIfInBounds i true)) a w
theorem wpAny_of_GB : ∀ (fuel : Nat) (listed : Array Bool) (a : Act) (w : World), wpAnyGB P md ops Q B fuel listed a w → wpAny P md ops Q fuel listed a w
 | 0, _, _, _, h => h
 | fuel + 1, _, _, _, h => ⟨h.1, fun i hi => wpOp_mono (fun a' w' hk => wpAny_of_GB fuel _ a' w' hk.2.2) (h.2 i hi)⟩

def YieldsB (P : Program) (ops : Array Oper) (B : World → Prop) (o : Oper) (v : Value) (a : Act) : Prop :=
 (Region.wanted o (yielded ops a.tmps) = true ∧ ∀ w', B w' → (execOp a.eval o).run P w' = .ok (.value v) w') ∨
 (Region.wanted o (yielded ops a.tmps) = false ∧ v = undef)

theorem YieldsB.of_same {o : Oper} {v : Value} {a a' : Act} (hy : YieldsB P ops B o v a) (he : execOp a'.eval o = execOp a.eval o)
  (hw : Region.wanted o (yielded ops a'.tmps) = Region.wanted o (yielded ops a.tmps)) : YieldsB P ops B o v a' := by
 unfold YieldsB at *
 rw [he, hw]
 exact hy

theorem YieldsB.gOpB {i : Nat} {o : Oper} {v : Value} {a : Act} {w : World} (hi : ops[i]? = some o) (hB : B w) (hy : YieldsB P ops B o v a)
  {K : Act → World → Prop} (h : K (a.put o.dst v) w) : gOpB P ops Q B i K a w := by
 unfold Proofs.YtchpbaaabnkkkaaGreatDoor.LateL.gOpB wpOp
 simp only [hi]
 have hr : ∀ o_1 : Oper, some o = some o_1 → relOf o_1 w w := fun _ _ => relOf.refl _ _
 rcases hy with ⟨hw, hv⟩ | ⟨hw, rfl⟩
 ·simp only [hw, if_true, Oper.wp, hv w hB, Oper.upon]; exact .inl ⟨hr, hB, h⟩
 ·simp only [hw, Bool.false_eq_true, if_false]; exact ⟨hr, hB, h⟩

theorem gOpB_put {j : Nat} {oi oj : Oper} {v : Value} (hj : ops[j]? = some oj) (hap : oi.apart ops oj = true)
  (hsi : ∀ cs b, oi.op ≠ .select cs b) (hsj : ∀ cs b, oj.op ≠ .select cs b)
  (hQ : ∀ c a d v w, Q (.panic c) (a.put d v) w → Q (.panic c) a w) {K : Act → World → Prop} {a : Act} {w : World}
  (hy : YieldsB P ops B oi v a) (h : gOpB P ops Q B j K (a.put oi.dst v) w) :
  gOpB P ops Q B j (fun a' w' => YieldsB P ops B oi v a' ∧ K (a'.put oi.dst v) w') a w := by
 obtain ⟨h1, h2, h3⟩ := Oper.apart_spec hap
 have keep : ∀ (a : Act), YieldsB P ops B oi v a → ∀ u, YieldsB P ops B oi v (a.put oj.dst u) := fun a hy u =>
  hy.of_same (execOp_put oi hsi a oj.dst u h3) (wanted_put oi a oj.dst u h3)
 have keepD : ∀ d, YieldsB P ops B oi v a → YieldsB P ops B oi v { a with defers := d :: a.defers } := fun d hy => hy.of_same rfl rfl
 unfold gOpB wpOp at *
 simp only [hj] at *
 rw [wanted_put oj a oi.dst v h1] at h
 split
 ·rename_i hw
  simp only [hw, if_true] at h
  rcases h with h | ⟨hasks, hlets⟩
  case inr => exact .inr ⟨by unfold Oper.asks at *; rw [execOp_put oj hsj a oi.dst v h1] at hasks; exact hasks, hlets⟩
  refine .inl ?_
  unfold Oper.wp at *
  rw [execOp_put oj hsj a oi.dst v h1] at h
  generalize (execOp a.eval oj).run P w = r at *
  cases r with
  | ok n w' =>
   cases n <;> simp only [Oper.upon] at h ⊢
   case value u => exact ⟨h.1, h.2.1, keep a hy u, by rw [← Act.put_comm a v u h2]; exact h.2.2⟩
   case skip => exact ⟨h.1, h.2.1, keep a hy _, by rw [← Act.put_comm a v undef h2]; exact h.2.2⟩
   case defer d =>
    refine ⟨h.1, h.2.1, keep _ (keepD d hy) _, ?_⟩
    rw [← Act.put_comm _ v undef h2, ← Act.put_defers]
    exact h.2.2
   case enter f args =>
    refine Calls.mono h fun e w'' he => ?_
    cases e with
    | returned u => exact ⟨he.1, he.2.1, keep a hy u, by rw [← Act.put_comm a v u h2]; exact he.2.2⟩
    | panicked c => exact hQ _ _ _ _ _ he
    | outgrown => exact he
   case row row args => exact Rows.mono h fun u w'' he => ⟨he.1, he.2.1, keep a hy u, by rw [← Act.put_comm a v u h2]; exact he.2.2⟩
  | halt x w' =>
   cases x <;> simp only [Oper.upon] at h ⊢
   case panic u => exact hQ _ _ _ _ _ h
 ·rename_i hw
  simp only [hw] at h
  exact ⟨h.1, h.2.1, keep a (hy) _, by rw [← Act.put_comm a v undef h2]; exact h.2.2⟩

theorem gOpB_mono {i : Nat} {a : Act} {w : World} {K K' : Act → World → Prop} (h : ∀ a w, B w → K a w → K' a w)
  (hh : gOpB P ops Q B i K a w) : gOpB P ops Q B i K' a w := wpOp_mono (fun a w hk => ⟨hk.1, hk.2.1, h a w hk.2.1 hk.2.2⟩) hh

theorem wpAnyGB_first {i : Nat} {oi : Oper} {v : Value} (hi : ops[i]? = some oi) (hsel : ∀ (j : Nat) (o : Oper) cs b, ops[j]? = some o → o.op ≠ .select cs b)
  (hQ : ∀ c a d v w, Q (.panic c) (a.put d v) w → Q (.panic c) a w) :
  ∀ (fuel : Nat) (listed : Array Bool) (a : Act) (w : World), B w → Closed md ops listed →
   (∀ j oj, ops[j]? = some oj → j ≠ i → listed.getD j true = false → ¬ Waits md ops i j → oi.apart ops oj = true) →
   i ∈ Region.ready md ops listed → YieldsB P ops B oi v a →
   wpAnyGB P md ops Q B fuel (listed.setIfInBounds i true) (a.put oi.dst v) w → wpAnyGB P md ops Q B (fuel + 1) listed a w := by
 intro fuel
 induction fuel with
 | zero =>
  intro listed a w hB _ _ hr hy H
  refine ⟨fun h => (by rw [h] at hr; cases hr), fun j hj => ?_⟩
  by_cases hji : j = i
  ·subst hji; exact hy.gOpB hi hB H
  ·have := ready_mono hj hji
   rw [H.1] at this
   cases this
 | succ fuel ih =>
  intro listed a w hB hc hfree hr hy H
  refine ⟨fun h => (by rw [h] at hr; cases hr), fun j hj => ?_⟩
  by_cases hji : j = i
  ·subst hji; exact hy.gOpB hi hB H
  ·have h1 := H.2 j (ready_mono hj hji)
   obtain ⟨hjun, oj, hoj, hall⟩ := mem_ready.1 hj
   have hap := hfree j oj hoj hji hjun (Waits.not_ready hc hr hj)
   have h2 := gOpB_put hoj hap (fun cs b => hsel i oi cs b hi) (fun cs b => hsel j oj cs b hoj) hQ hy h1
   have hfree' : ∀ k ok, ops[k]? = some ok → k ≠ i → (listed.setIfInBounds j true).getD k true = false →
     ¬ Waits md ops i k → oi.apart ops ok = true := fun k ok hk hki hun hno => by
    refine hfree k ok hk hki ?_ hno
    by_cases hjk : j = k
    ·subst hjk; exact hjun
    ·rw [getD_set_ne true hjk] at hun; exact hun
   refine gOpB_mono (fun a' w' hB' h3 => ih (listed.setIfInBounds j true) a' w' hB' (hc.set hj) hfree' (ready_mono hr (Ne.symm hji)) h3.1 ?_) h2
   rw [Array.setIfInBounds_comm _ _ hji]
   exact h3.2

def freeJ (md : Region.Mode) (ops : Array Oper) (listed : Array Bool) (i : Nat) : Bool :=
 match ops[i]? with
 | none => false
 | some oi =>
  (List.range ops.size).all fun j => j == i || listed.getD j true || match ops[j]? with
   | some oj => oi.apart ops oj || (waitsGo md i ops.toList #[]).getD j false
   | none => true
theorem freeJ_spec {i : Nat} {oi : Oper} {listed : Array Bool} (hi : ops[i]? = some oi) (h : freeJ md ops listed i = true) (j : Nat) (oj : Oper)
  (hj : ops[j]? = some oj) (hne : j ≠ i) (hun : listed.getD j true = false) (hno : ¬ Waits md ops i j) : oi.apart ops oj = true := by
 simp only [freeJ, hi, List.all_eq_true, List.mem_range] at h
 have h1 := h j (Array.getElem?_eq_some_iff.1 hj).1
 simp only [hj, Bool.or_eq_true, beq_iff_eq, hne, false_or, hun, Bool.false_eq_true] at h1
 rcases h1 with h1 | h1
 ·exact h1
 ·exact absurd (waitsGo_spec (md := md) (ops := ops) (i := i) ops.toList #[] (by simp) (by simp) j h1) hno
def okJ (md : Region.Mode) (ops : Array Oper) : Nat → List (Nat × Nat) → Array Bool → Bool
 | 0, _, _ => false
 | _ + 1, [], listed => (Region.ready md ops listed).isEmpty
 | f + 1, (i, k) :: rest, listed => (Region.ready md ops listed).contains i &&
   if k = 1 then freeJ md ops listed i && okJ md ops f rest (listed.setIfInBounds i true)
   else okJ md ops f rest (listed.setIfInBounds i true) && (k == 2 || !hasAlloc rest || (match ops[i]? with | some o => !isStore o | none => false)) &&
    (Region.ready md ops listed).all fun j => j == i || ((match ops[j]? with | some oj => earlyOK ops j oj ((i, k) :: rest) | none => false) && okJ md ops f (eraseF j ((i, k) :: rest)) (listed.setIfInBounds j true))

def wpJ (P : Program) (ops : Array Oper) (Q : Exit → Act → World → Prop) (B : World → Prop) (zc : TypeId → Array Value) : List (Nat × Nat) → (Nat → Prop) → Act → World → Prop
 | [], _, a, w => Q .normal a w
 | (i, k) :: rest, U, a, w => ∃ o, ops[i]? = some o ∧
   if k = 2 then ∀ T, o.op = .alloc T → ∀ w1 b, Gr w w1 → Fresh (zc T) T b w1 → ¬ U b → wpJ P ops Q B zc rest (fun x => U x ∨ x = b) (a.put o.dst (ptr b)) w1
   else if Region.wanted o (yielded ops a.tmps) = true then
    (if k = 1 then ∃ v, (∀ w', B w' → (execOp a.eval o).run P w' = .ok (.value v) w') ∧ wpJ P ops Q B zc rest U (a.put o.dst v) w
     else ∀ w1, Gr w w1 → Oper.wp P o a w1 (fun a' w' => relOf o w1 w' ∧ B w' ∧ wpJ P ops Q B zc rest (fun x => U x ∨ (w1.heap.size ≤ x ∧ x < w'.heap.size)) a' w') Q)
   else wpJ P ops Q B zc rest U (a.put o.dst undef) w

theorem wpJ_anti : ∀ (l : List (Nat × Nat)) (U U' : Nat → Prop) (a : Act) (w : World), (∀ x, U x → U' x) → wpJ P ops Q B zc l U a w → wpJ P ops Q B zc l U' a w
 | [], _, _, _, _, _, h => h
 | (i, k) :: rest, U, U', a, w, hU, ⟨o, ho, h⟩ => by
  refine ⟨o, ho, ?_⟩
  by_cases hk : k = 2
  ·rw [if_pos hk] at h ⊢
   exact fun T hT w1 b g f n => wpJ_anti rest _ _ _ _ (fun x hx => hx.imp (hU x) id) (h T hT w1 b g f (fun hb => n (hU b hb)))
  ·rw [if_neg hk] at h ⊢
   by_cases hw : Region.wanted o (yielded ops a.tmps) = true
   ·rw [if_pos hw] at h ⊢
    by_cases hk1 : k = 1
    ·rw [if_pos hk1] at h ⊢
     obtain ⟨v, hv, h⟩ := h
     exact ⟨v, hv, wpJ_anti rest _ _ _ _ hU h⟩
    ·rw [if_neg hk1] at h ⊢
     exact fun w1 g => Oper.wp_mono (fun a' w' hk => ⟨hk.1, hk.2.1, wpJ_anti rest _ _ _ _ (fun x hx => hx.imp (hU x) id) hk.2.2⟩) (h w1 g)
   ·rw [if_neg hw] at h ⊢
    exact wpJ_anti rest _ _ _ _ hU h

theorem wpJ_grow : ∀ (l : List (Nat × Nat)) (U : Nat → Prop) (a : Act) (w w' : World), hasAlloc l = true → Gr w w' → wpJ P ops Q B zc l U a w → wpJ P ops Q B zc l U a w'
 | [], _, _, _, _, h, _, _ => by simp [hasAlloc] at h
 | (i, k) :: rest, U, a, w, w', hl, g, ⟨o, ho, h⟩ => by
  refine ⟨o, ho, ?_⟩
  by_cases hk : k = 2
  ·rw [if_pos hk] at h ⊢
   exact fun T hT w1 b g1 f n => h T hT w1 b (g.trans g1) f n
  ·have hl' : hasAlloc rest = true := by simpa [hasAlloc, hk] using hl
   rw [if_neg hk] at h ⊢
   by_cases hw : Region.wanted o (yielded ops a.tmps) = true
   ·rw [if_pos hw] at h ⊢
    by_cases hk1 : k = 1
    ·rw [if_pos hk1] at h ⊢
     obtain ⟨v, hv, h⟩ := h
     exact ⟨v, hv, wpJ_grow rest U _ _ _ hl' g h⟩
    ·rw [if_neg hk1] at h ⊢
     exact fun w1 g1 => h w1 (g.trans g1)
   ·rw [if_neg hw] at h ⊢
    exact wpJ_grow rest U _ _ _ hl' g h

/-- an effect in a state in which a new variable has already been laid -/
theorem wpJ_early {i : Nat} {oi : Oper} {T : TypeId} {b : Nat} (hi : ops[i]? = some oi) (hT : oi.op = .alloc T) (hsel : ∀ (j : Nat) (o : Oper) cs b, ops[j]? = some o → o.op ≠ .select cs b)
  (hQ : ∀ c a d v w, Q (.panic c) a w → Q (.panic c) (a.put d v) w) :
  ∀ (l : List (Nat × Nat)) (U : Nat → Prop) (a : Act) (w : World), earlyOK ops i oi l = true → Fresh (zc T) T b w → ¬ U b → wpJ P ops Q B zc l U a w → wpJ P ops Q B zc (eraseF i l) (fun x => U x ∨ x = b) (a.put oi.dst (ptr b)) w
 | [], _, _, _, h, _, _, _ => by simp [earlyOK] at h
 | (j, k) :: rest, U, a, w, hok, hf, hU, ⟨o, ho, h⟩ => by
  unfold earlyOK at hok
  unfold eraseF
  by_cases hh : j = i ∧ k = 2
  ·obtain ⟨rfl, rfl⟩ := hh
   rw [if_pos ⟨rfl, rfl⟩]
   rw [hi] at ho
   cases ho
   rw [if_pos rfl] at h
   exact h T hT w b (Gr.refl w) hf hU
  ·rw [if_neg hh] at hok ⊢
   simp only [ho, Bool.and_eq_true, Bool.not_eq_true'] at hok
   obtain ⟨⟨hap, hst⟩, hok⟩ := hok
   obtain ⟨h1, h2, h3⟩ := Oper.apart_spec hap
   refine ⟨o, ho, ?_⟩
   by_cases hk : k = 2
   ·rw [if_pos hk] at h ⊢
    intro T1 hT1 w1 b1 g1 f1 n1
    have := wpJ_early hi hT hsel hQ rest _ _ _ hok (hf.grow g1) (fun hb => hb.elim hU (fun e => n1 (.inr e.symm))) (h T1 hT1 w1 b1 g1 f1 (fun hb => n1 (.inl hb)))
    rw [Act.put_comm a (ptr b) (ptr b1) h2]
    exact wpJ_anti _ _ _ _ _ (fun x hx => by rcases hx with (hx | hx) | hx; exact .inl (.inl hx); exact .inr hx; exact .inl (.inr hx)) this
   ·rw [if_neg hk] at h ⊢
    rw [wanted_put o a oi.dst (ptr b) h1]
    by_cases hw : Region.wanted o (yielded ops a.tmps) = true
    ·rw [if_pos hw] at h ⊢
     by_cases hk1 : k = 1
     ·rw [if_pos hk1] at h ⊢
      obtain ⟨v, hv, h⟩ := h
      refine ⟨v, fun w' g => by rw [execOp_put o (fun cs b => hsel j o cs b ho) a oi.dst _ h1]; exact hv w' g, ?_⟩
      rw [Act.put_comm a (ptr b) v h2]
      exact wpJ_early hi hT hsel hQ rest _ _ _ hok hf hU h
     ·rw [if_neg hk1] at h ⊢
      intro w1 g1
      refine wp_put_early hap (fun cs b => hsel j o cs b ho) hQ (fun a' w' hr hk => ⟨hk.1, ?_⟩) (h w1 g1)
      have hk := hk.2
      exact wpJ_anti _ _ _ _ _ (fun x hx => by rcases hx with (hx | hx) | hx; exact .inl (.inl hx); exact .inr hx; exact .inl (.inr hx)) (wpJ_early hi hT hsel hQ rest _ _ _ hok ((hf.grow g1).grow (hr hst)) (fun hx => hx.elim hU (fun hx => by have := (hf.grow g1).lt; have hb : b < w1.heap.size := Nat.lt_of_lt_of_le hf.lt g1.size; omega)) hk)
    ·rw [if_neg hw] at h ⊢
     rw [Act.put_comm a (ptr b) undef h2]
     exact wpJ_early hi hT hsel hQ rest _ _ _ hok hf hU h

theorem wpAnyGB_J (hBg : ∀ w w', B w → Gr w w' → B w') (hs : Region.noSelect ops = true) (hQ : ∀ c a d v w, Q (.panic c) (a.put d v) w → Q (.panic c) a w) (hQ' : ∀ c a d v w, Q (.panic c) a w → Q (.panic c) (a.put d v) w) :
  ∀ (n : Nat) (l : List (Nat × Nat)), l.length = n → ∀ (f : Nat) (listed : Array Bool) (U : Nat → Prop) (a : Act) (w : World), B w → Closed md ops listed → okJ md ops f l listed = true →
   (∀ i, (i, 2) ∈ l → ∃ o T, ops[i]? = some o ∧ o.guard = none ∧ o.op = .alloc T ∧ AllocIs P T (zc T)) → (hasAlloc l = true → ∀ b, U b → b < w.heap.size) →
   wpJ P ops Q B zc l U a w → wpAnyGB P md ops Q B n listed a w := by
 intro n
 induction n with
 | zero =>
  intro l hl f listed U a w hB hc hok hA hU h
  have : l = [] := List.eq_nil_of_length_eq_zero hl
  subst this
  cases f with
  | zero => simp [okJ] at hok
  | succ f => exact ⟨by simpa [okJ] using hok, h⟩
 | succ n ih =>
  intro l hl f listed U a w hB hc hok hA hU h
  match l, hl with
  | (i, k) :: rest, hl =>
  have hl' : rest.length = n := by simpa using hl
  have hA' : ∀ i, (i, 2) ∈ rest → ∃ o T, ops[i]? = some o ∧ o.guard = none ∧ o.op = .alloc T ∧ AllocIs P T (zc T) := fun i hi => hA i (List.mem_cons_of_mem _ hi)
  cases f with
  | zero => simp [okJ] at hok
  | succ f =>
  have h0 := h
  obtain ⟨o, ho, h⟩ := h
  unfold okJ at hok
  simp only [Bool.and_eq_true] at hok
  obtain ⟨hr, hok⟩ := hok
  have hr' : i ∈ Region.ready md ops listed := by simpa using hr
  by_cases hk1 : k = 1
  ·subst hk1
   have hU' : hasAlloc rest = true → ∀ b, U b → b < w.heap.size := fun hh => hU (by simp [hasAlloc, hh])
   rw [if_pos rfl, Bool.and_eq_true] at hok
   rw [if_neg (by omega)] at h
   by_cases hw : Region.wanted o (yielded ops a.tmps) = true
   ·rw [if_pos hw, if_pos rfl] at h
    obtain ⟨v, hv, h⟩ := h
    exact wpAnyGB_first ho (Region.noSelect_spec hs) hQ n listed a w hB hc (freeJ_spec ho hok.1) hr' (.inl ⟨hw, hv⟩) (ih rest hl' f _ U _ w hB (hc.set hr') hok.2 hA' hU' h)
   ·rw [if_neg hw] at h
    exact wpAnyGB_first ho (Region.noSelect_spec hs) hQ n listed a w hB hc (freeJ_spec ho hok.1) hr' (.inr ⟨by simpa using hw, rfl⟩) (ih rest hl' f _ U _ w hB (hc.set hr') hok.2 hA' hU' h)
  ·rw [if_neg hk1] at hok
   simp only [Bool.and_eq_true, List.all_eq_true] at hok
   obtain ⟨⟨hok, hst⟩, hall⟩ := hok
   refine ⟨fun hn => (by rw [hn] at hr'; cases hr'), fun j hj => ?_⟩
   by_cases hji : j = i
   ·subst hji
    unfold gOpB wpOp
    simp only [ho]
    by_cases hk : k = 2
    ·subst hk
     rw [if_pos rfl] at h
     obtain ⟨o', T, ho', hg, hT, hAl⟩ := hA j List.mem_cons_self
     rw [ho] at ho'; cases ho'
     rw [if_pos (by simp [Region.wanted, hg])]
     refine .inl ?_
     unfold Oper.wp
     rw [exec_alloc hT hAl]
     simp only [Oper.upon]
     have g1 : Gr w (w.alloc (.cells (zc T) T)) := (Gr.refl w).alloc _
     refine ⟨fun _ _ _ => g1, hBg _ _ hB g1, ih rest hl' f _ _ _ _ (hBg _ _ hB g1) (hc.set hr') hok hA' (fun hh b hb => ?_) (h T hT _ _ g1 (Fresh.new _ _ w) (fun hb => ?_))⟩
     ·rw [World.size_alloc]
      rcases hb with hb | hb
      ·have := hU (by simp [hasAlloc]) b hb; omega
      ·omega
     ·have := hU (by simp [hasAlloc]) _ hb; omega
    ·rw [if_neg hk] at h
     by_cases hw : Region.wanted o (yielded ops a.tmps) = true
     ·rw [if_pos hw, if_neg hk1] at h
      rw [if_pos hw]
      refine .inl (Oper.wp_mono (fun a' w' hkk => ⟨fun o' ho' => ?_, hkk.2.1, ?_⟩) (h w (Gr.refl w)))
      ·cases ho'; exact hkk.1
      ·refine ih rest hl' f _ _ a' w' hkk.2.1 (hc.set hr') hok hA' (fun hh b hb => ?_) hkk.2.2
       rcases hb with hb | hb
       ·have h1 := hU (by simp [hasAlloc, hh]) b hb
        have h2 : isStore o = false := by simpa [hk, hh, ho] using hst
        exact Nat.lt_of_lt_of_le h1 (hkk.1 h2).size
       ·exact hb.2
     ·rw [if_neg hw] at h
      rw [if_neg hw]
      exact ⟨fun _ _ => relOf.refl _ _, hB, ih rest hl' f _ U _ w hB (hc.set hr') hok hA' (fun hh => hU (by simp [hasAlloc, hh])) h⟩
   ·have hj2 := hall j hj
    simp only [Bool.or_eq_true, beq_iff_eq, hji, false_or, Bool.and_eq_true] at hj2
    obtain ⟨he, hokj⟩ := hj2
    cases hoj : ops[j]? with
    | none => simp [hoj] at he
    | some oj =>
     simp only [hoj] at he
     obtain ⟨hmem, hhas⟩ := earlyOK_mem _ he
     obtain ⟨oj', T, hoj', hg, hT, hAl⟩ := hA j hmem
     rw [hoj] at hoj'; cases hoj'
     unfold gOpB wpOp
     simp only [hoj]
     rw [if_pos (by simp [Region.wanted, hg])]
     refine .inl ?_
     unfold Oper.wp
     rw [exec_alloc hT hAl]
     simp only [Oper.upon]
     have g1 : Gr w (w.alloc (.cells (zc T) T)) := (Gr.refl w).alloc _
     have hnU : ¬ U w.heap.size := fun hb => by have := hU hhas _ hb; omega
     have hE := wpJ_early hoj hT (Region.noSelect_spec hs) hQ' _ U a _ he (Fresh.new (zc T) T w) hnU (wpJ_grow _ U a w _ hhas g1 h0)
     have hlen := eraseF_length _ he
     refine ⟨fun _ _ _ => g1, hBg _ _ hB g1, ih (eraseF j ((i, k) :: rest)) (by omega) f _ _ _ _ (hBg _ _ hB g1) (hc.set hj) hokj (fun i' hi' => hA i' (mem_eraseF _ _ hi')) (fun _ b hb => ?_) hE⟩
     rw [World.size_alloc]
     rcases hb with hb | hb
     ·have := hU hhas b hb; omega
     ·omega

/-- **A region that draws its order, new variables laid late.** Kinds: 1 a read, 0 an effect, 2 a new variable. -/
theorem wp_region_latel {id : Nat} {a : Act} {w : World} (B : World → Prop) (hB0 : B w.drew) (hBg : ∀ w w', B w → Gr w w' → B w') (zc : TypeId → Array Value) (f : Nat) (order : List (Nat × Nat)) (hm : P.follows .mixedOrders = true) (hs : Region.noSelect ops = true)
  (hn : order.length = ops.size) (hB : okJ .any ops f order (Array.replicate ops.size false) = true) (hQ : ∀ c a d v w, Q (.panic c) (a.put d v) w → Q (.panic c) a w) (hQ' : ∀ c a d v w, Q (.panic c) a w → Q (.panic c) (a.put d v) w)
  (hA : ∀ i, (i, 2) ∈ order → ∃ o T, ops[i]? = some o ∧ o.guard = none ∧ o.op = .alloc T ∧ AllocIs P T (zc T))
  (h : wpJ P ops Q B zc order (fun b => b < w.heap.size) a w.drew) : (Code.region id ops true).wp P Q a w := by
 refine wp_region_any hm (wpAny_of_GB (B := B) _ _ _ _ ?_)
 have := wpAnyGB_J (md := .any) hBg hs hQ hQ' order.length order rfl f (Array.replicate ops.size false) (fun b => b < w.heap.size) a w.drew hB0
  (fun j o _ hl => by simp [Array.getElem?_replicate] at hl; split at hl <;> simp at hl) hB hA (fun _ b hb => hb) h
 rw [hn] at this
 exact this

variable {rest : List (Nat × Nat)} {U : Nat → Prop} {a : Act} {w : World} {o : Oper} {i : Nat}
theorem wpJ_nil (h : Q .normal a w) : wpJ P ops Q B zc [] U a w := h
theorem wpJ_read (ho : ops[i]? = some o) (hw : Region.wanted o (yielded ops a.tmps) = true) {v : Value} (hv : ∀ w', B w' → (execOp a.eval o).run P w' = .ok (.value v) w')
  (h : ∀ K : Act → World → Prop, (∀ a w, wpJ P ops Q B zc rest U a w → K a w) → K (a.put o.dst v) w) : wpJ P ops Q B zc ((i, 1) :: rest) U a w :=
 ⟨o, ho, by rw [if_neg (by omega), if_pos hw, if_pos rfl]; exact ⟨v, hv, h _ (fun _ _ h => h)⟩⟩
theorem wpJ_do (ho : ops[i]? = some o) (hw : Region.wanted o (yielded ops a.tmps) = true)
  (h : ∀ K : World → Act → World → Prop, (∀ w1 a w', wpJ P ops Q B zc rest (fun x => U x ∨ (w1.heap.size ≤ x ∧ x < w'.heap.size)) a w' → K w1 a w') → ∀ w1, Gr w w1 → Oper.wp P o a w1 (fun a' w' => relOf o w1 w' ∧ B w' ∧ K w1 a' w') Q) : wpJ P ops Q B zc ((i, 0) :: rest) U a w :=
 ⟨o, ho, by rw [if_neg (by omega), if_pos hw, if_neg (by omega)]; exact h (fun w1 a w' => wpJ P ops Q B zc rest (fun x => U x ∨ (w1.heap.size ≤ x ∧ x < w'.heap.size)) a w') (fun _ _ _ h => h)⟩
theorem wpJ_new {T : TypeId} (ho : ops[i]? = some o) (hT : o.op = .alloc T)
  (h : ∀ K : Act → World → Prop, ∀ w1 b, Gr w w1 → Fresh (zc T) T b w1 → ¬ U b → (∀ a w, wpJ P ops Q B zc rest (fun x => U x ∨ x = b) a w → K a w) → K (a.put o.dst (.pointer (some ⟨b, 0, none⟩))) w1) : wpJ P ops Q B zc ((i, 2) :: rest) U a w :=
 ⟨o, ho, by rw [if_pos rfl]; intro T' hT' w1 b g f n; rw [hT] at hT'; cases hT'; exact h _ w1 b g f n (fun _ _ h => h)⟩
end
end Go.Proofs.YtchpbaaabnkkkaaGreatDoor.LateL

/-
 A region that draws its order and in which new variables are laid (alloc) at any time: the walk may lay them as late as it likes.
-/
import Derived.Test.YtnlocdijdfclcaaGreatDoorBase
namespace Go.Proofs.YtnlocdijdfclcaaGreatDoor
open Go.RowKit
set_option linter.unusedVariables false
set_option linter.unusedSimpArgs false

def Fresh (Z : Array Value) (T : TypeId) (b : Nat) (w : World) : Prop := w.heap[b]? = some (.cells Z T (0, 0))
theorem Fresh.lt {Z : Array Value} {T : TypeId} {b : Nat} {w : World} (h : Fresh Z T b w) : b < w.heap.size := by
 rcases Nat.lt_or_ge b w.heap.size with h' | h'
 ·exact h'
 ·unfold Fresh at h; rw [Array.getElem?_eq_none h'] at h; cases h
theorem Fresh.grow {Z : Array Value} {T : TypeId} {b : Nat} {w w' : World} (h : Fresh Z T b w) (g : Gr w w') : Fresh Z T b w' := by
 unfold Fresh; rw [Below.block g b h.lt]; exact h
theorem Fresh.new (Z : Array Value) (T : TypeId) (w : World) : Fresh Z T w.heap.size (w.alloc (.cells Z T)) := heap_alloc_new w _

def AllocIs (P : Program) (T : TypeId) (Z : Array Value) : Prop :=
 ∀ w, (Instr.alloc T true (.tuple #[])).run P w = .ok (.pointer (some ⟨w.heap.size, 0, none⟩)) (w.alloc (.cells Z T))

def ptr (b : Nat) : Value := .pointer (some ⟨b, 0, none⟩)

section
variable {P : Program} {ops : Array Oper} {md : Region.Mode} {Q : Exit → Act → World → Prop} {zc : TypeId → Array Value}

theorem exec_alloc {o : Oper} {T : TypeId} (ho : o.op = .alloc T) (hA : AllocIs P T (zc T)) (ρ : Operand → Value) (w : World) :
  (execOp ρ o).run P w = .ok (.value (ptr w.heap.size)) (w.alloc (.cells (zc T) T)) := by
 unfold execOp
 simp only [ho, Sem.run_bind, hA w, Result.andThen_ok, Sem.run_pure]
 rfl

def wpF (P : Program) (ops : Array Oper) (Q : Exit → Act → World → Prop) (zc : TypeId → Array Value) : List (Nat × Nat) → (Nat → Prop) → Act → World → Prop
 | [], _, a, w => Q .normal a w
 | (i, k) :: rest, U, a, w => ∃ o, ops[i]? = some o ∧
   if k = 2 then ∀ T, o.op = .alloc T → ∀ w1 b, Gr w w1 → Fresh (zc T) T b w1 → ¬ U b → wpF P ops Q zc rest (fun x => U x ∨ x = b) (a.put o.dst (ptr b)) w1
   else if Region.wanted o (yielded ops a.tmps) = true then
    (if k = 1 then ∃ v, (∀ w', Gr w w' → (execOp a.eval o).run P w' = .ok (.value v) w') ∧ wpF P ops Q zc rest U (a.put o.dst v) w
     else ∀ w1, Gr w w1 → Oper.wp P o a w1 (fun a' w' => relOf o w1 w' ∧ wpF P ops Q zc rest U a' w') Q)
   else wpF P ops Q zc rest U (a.put o.dst undef) w

theorem wpF_anti : ∀ (l : List (Nat × Nat)) (U U' : Nat → Prop) (a : Act) (w : World), (∀ x, U x → U' x) → wpF P ops Q zc l U a w → wpF P ops Q zc l U' a w
 | [], _, _, _, _, _, h => h
 | (i, k) :: rest, U, U', a, w, hU, ⟨o, ho, h⟩ => by
  refine ⟨o, ho, ?_⟩
  by_cases hk : k = 2
  ·rw [if_pos hk] at h ⊢
   exact fun T hT w1 b g f n => wpF_anti rest _ _ _ _ (fun x hx => hx.imp (hU x) id) (h T hT w1 b g f (fun hb => n (hU b hb)))
  ·rw [if_neg hk] at h ⊢
   by_cases hw : Region.wanted o (yielded ops a.tmps) = true
   ·rw [if_pos hw] at h ⊢
    by_cases hk1 : k = 1
    ·rw [if_pos hk1] at h ⊢
     obtain ⟨v, hv, h⟩ := h
     exact ⟨v, hv, wpF_anti rest _ _ _ _ hU h⟩
    ·rw [if_neg hk1] at h ⊢
     exact fun w1 g => Oper.wp_mono (fun a' w' hk => ⟨hk.1, wpF_anti rest _ _ _ _ hU hk.2⟩) (h w1 g)
   ·rw [if_neg hw] at h ⊢
    exact wpF_anti rest _ _ _ _ hU h

def hasAlloc : List (Nat × Nat) → Bool
 | [] => false
 | (_, k) :: rest => k == 2 || hasAlloc rest

theorem wpF_grow : ∀ (l : List (Nat × Nat)) (U : Nat → Prop) (a : Act) (w w' : World), hasAlloc l = true → Gr w w' → wpF P ops Q zc l U a w → wpF P ops Q zc l U a w'
 | [], _, _, _, _, h, _, _ => by simp [hasAlloc] at h
 | (i, k) :: rest, U, a, w, w', hl, g, ⟨o, ho, h⟩ => by
  refine ⟨o, ho, ?_⟩
  by_cases hk : k = 2
  ·rw [if_pos hk] at h ⊢
   exact fun T hT w1 b g1 f n => h T hT w1 b (g.trans g1) f n
  ·have hl' : hasAlloc rest = true := by simpa [hasAlloc, hk] using hl
   rw [if_neg hk] at h ⊢
   by_cases hw : Region.wanted o (yielded ops a.tmps) = true
   ·rw [if_pos hw] at h ⊢
    by_cases hk1 : k = 1
    ·rw [if_pos hk1] at h ⊢
     obtain ⟨v, hv, h⟩ := h
     exact ⟨v, fun w2 g2 => hv w2 (g.trans g2), wpF_grow rest U _ _ _ hl' g h⟩
    ·rw [if_neg hk1] at h ⊢
     exact fun w1 g1 => h w1 (g.trans g1)
   ·rw [if_neg hw] at h ⊢
    exact wpF_grow rest U _ _ _ hl' g h

def earlyOK (ops : Array Oper) (i : Nat) (oi : Oper) : List (Nat × Nat) → Bool
 | [] => false
 | (j, k) :: rest => if j = i ∧ k = 2 then true else (match ops[j]? with | some oj => oi.apart ops oj && !isStore oj | none => false) && earlyOK ops i oi rest

def eraseF (i : Nat) : List (Nat × Nat) → List (Nat × Nat)
 | [] => []
 | (j, k) :: rest => if j = i ∧ k = 2 then rest else (j, k) :: eraseF i rest

theorem eraseF_length {i : Nat} {oi : Oper} : ∀ (l : List (Nat × Nat)), earlyOK ops i oi l = true → (eraseF i l).length + 1 = l.length
 | [], h => by simp [earlyOK] at h
 | (j, k) :: rest, h => by
  unfold earlyOK at h
  unfold eraseF
  split
  ·rfl
  ·rename_i hn
   rw [if_neg hn] at h
   simp only [Bool.and_eq_true] at h
   simp [eraseF_length rest h.2]
theorem mem_eraseF {i : Nat} : ∀ (l : List (Nat × Nat)) (x : Nat × Nat), x ∈ eraseF i l → x ∈ l
 | [], x, h => h
 | (j, k) :: rest, x, h => by
  unfold eraseF at h
  split at h
  ·exact List.mem_cons_of_mem _ h
  ·rcases List.mem_cons.1 h with rfl | h
   ·exact List.mem_cons_self
   ·exact List.mem_cons_of_mem _ (mem_eraseF rest x h)

theorem wp_put_early {oi oj : Oper} {v : Value} (hap : oi.apart ops oj = true) (hsj : ∀ cs b, oj.op ≠ .select cs b)
  (hQ : ∀ c a d v w, Q (.panic c) a w → Q (.panic c) (a.put d v) w) {K K' : Act → World → Prop} {a : Act} {w : World}
  (hK : ∀ a' w', relOf oj w w' → K a' w' → K' (a'.put oi.dst v) w')
  (h : Oper.wp P oj a w (fun a' w' => relOf oj w w' ∧ K a' w') Q) : Oper.wp P oj (a.put oi.dst v) w (fun a' w' => relOf oj w w' ∧ K' a' w') Q := by
 obtain ⟨h1, h2, h3⟩ := Oper.apart_spec hap
 unfold Oper.wp at *
 rw [execOp_put oj hsj a oi.dst v h1]
 generalize (execOp a.eval oj).run P w = r at *
 cases r with
 | ok n w' =>
  cases n <;> simp only [Oper.upon] at h ⊢
  case value u => exact ⟨h.1, by rw [Act.put_comm a v u h2]; exact hK _ _ h.1 h.2⟩
  case skip => exact ⟨h.1, by rw [Act.put_comm a v undef h2]; exact hK _ _ h.1 h.2⟩
  case defer d =>
   refine ⟨h.1, ?_⟩
   rw [Act.put_defers, Act.put_comm _ v undef h2]
   exact hK _ _ h.1 h.2
  case enter f args =>
   refine Calls.mono h fun e w'' he => ?_
   cases e with
   | returned u => exact ⟨he.1, by rw [Act.put_comm a v u h2]; exact hK _ _ he.1 he.2⟩
   | panicked c => exact hQ _ _ _ _ _ he
   | outgrown => exact he
  case row row args => exact Rows.mono h fun u w'' he => ⟨he.1, by rw [Act.put_comm a v u h2]; exact hK _ _ he.1 he.2⟩
 | halt x w' =>
  cases x <;> simp only [Oper.upon] at h ⊢
  case panic u => exact hQ _ _ _ _ _ h

theorem wpF_early {i : Nat} {oi : Oper} {T : TypeId} {b : Nat} (hi : ops[i]? = some oi) (hT : oi.op = .alloc T) (hsel : ∀ (j : Nat) (o : Oper) cs b, ops[j]? = some o → o.op ≠ .select cs b)
  (hQ : ∀ c a d v w, Q (.panic c) a w → Q (.panic c) (a.put d v) w) :
  ∀ (l : List (Nat × Nat)) (U : Nat → Prop) (a : Act) (w : World), earlyOK ops i oi l = true → Fresh (zc T) T b w → ¬ U b → wpF P ops Q zc l U a w → wpF P ops Q zc (eraseF i l) (fun x => U x ∨ x = b) (a.put oi.dst (ptr b)) w
 | [], _, _, _, h, _, _, _ => by simp [earlyOK] at h
 | (j, k) :: rest, U, a, w, hok, hf, hU, ⟨o, ho, h⟩ => by
  unfold earlyOK at hok
  unfold eraseF
  by_cases hh : j = i ∧ k = 2
  ·obtain ⟨rfl, rfl⟩ := hh
   rw [if_pos ⟨rfl, rfl⟩]
   rw [hi] at ho
   cases ho
   rw [if_pos rfl] at h
   exact h T hT w b (Gr.refl w) hf hU
  ·rw [if_neg hh] at hok ⊢
   simp only [ho, Bool.and_eq_true, Bool.not_eq_true'] at hok
   obtain ⟨⟨hap, hst⟩, hok⟩ := hok
   obtain ⟨h1, h2, h3⟩ := Oper.apart_spec hap
   refine ⟨o, ho, ?_⟩
   by_cases hk : k = 2
   ·rw [if_pos hk] at h ⊢
    intro T1 hT1 w1 b1 g1 f1 n1
    have := wpF_early hi hT hsel hQ rest _ _ _ hok (hf.grow g1) (fun hb => hb.elim hU (fun e => n1 (.inr e.symm))) (h T1 hT1 w1 b1 g1 f1 (fun hb => n1 (.inl hb)))
    rw [Act.put_comm a (ptr b) (ptr b1) h2]
    exact wpF_anti _ _ _ _ _ (fun x hx => by rcases hx with (hx | hx) | hx; exact .inl (.inl hx); exact .inr hx; exact .inl (.inr hx)) this
   ·rw [if_neg hk] at h ⊢
    rw [wanted_put o a oi.dst (ptr b) h1]
    by_cases hw : Region.wanted o (yielded ops a.tmps) = true
    ·rw [if_pos hw] at h ⊢
     by_cases hk1 : k = 1
     ·rw [if_pos hk1] at h ⊢
      obtain ⟨v, hv, h⟩ := h
      refine ⟨v, fun w' g => by rw [execOp_put o (fun cs b => hsel j o cs b ho) a oi.dst _ h1]; exact hv w' g, ?_⟩
      rw [Act.put_comm a (ptr b) v h2]
      exact wpF_early hi hT hsel hQ rest _ _ _ hok hf hU h
     ·rw [if_neg hk1] at h ⊢
      intro w1 g1
      refine wp_put_early hap (fun cs b => hsel j o cs b ho) hQ (fun a' w' hr hk => ?_) (h w1 g1)
      exact wpF_early hi hT hsel hQ rest _ _ _ hok ((hf.grow g1).grow (hr hst)) hU hk
    ·rw [if_neg hw] at h ⊢
     rw [Act.put_comm a (ptr b) undef h2]
     exact wpF_early hi hT hsel hQ rest _ _ _ hok hf hU h

def okF (md : Region.Mode) (ops : Array Oper) : Nat → List (Nat × Nat) → Array Bool → Bool
 | 0, _, _ => false
 | _ + 1, [], listed => (Region.ready md ops listed).isEmpty
 | f + 1, (i, k) :: rest, listed => (Region.ready md ops listed).contains i &&
     if k = 1 then freeG md ops listed i && okF md ops f rest (listed.setIfInBounds i true)
     else okF md ops f rest (listed.setIfInBounds i true) && (k == 2 || !hasAlloc rest || (match ops[i]? with | some o => !isStore o | none => false)) &&
    (Region.ready md ops listed).all fun j => j == i || ((match ops[j]? with | some oj => earlyOK ops j oj ((i, k) :: rest) | none => false) && okF md ops f (eraseF j ((i, k) :: rest)) (listed.setIfInBounds j true))

theorem earlyOK_mem {i : Nat} {oi : Oper} : ∀ (l : List (Nat × Nat)), earlyOK ops i oi l = true → (i, 2) ∈ l ∧ hasAlloc l = true
 | [], h => by simp [earlyOK] at h
 | (j, k) :: rest, h => by
  unfold earlyOK at h
  by_cases hh : j = i ∧ k = 2
  ·obtain ⟨rfl, rfl⟩ := hh; exact ⟨List.mem_cons_self, by simp [hasAlloc]⟩
  ·rw [if_neg hh] at h
   simp only [Bool.and_eq_true] at h
   obtain ⟨h1, h2⟩ := earlyOK_mem rest h.2
   exact ⟨List.mem_cons_of_mem _ h1, by simp [hasAlloc, h2]⟩

theorem wpAnyG_F (hs : Region.noSelect ops = true) (hQ : ∀ c a d v w, Q (.panic c) (a.put d v) w → Q (.panic c) a w) (hQ' : ∀ c a d v w, Q (.panic c) a w → Q (.panic c) (a.put d v) w) :
  ∀ (n : Nat) (l : List (Nat × Nat)), l.length = n → ∀ (f : Nat) (listed : Array Bool) (U : Nat → Prop) (a : Act) (w : World), Closed md ops listed → okF md ops f l listed = true →
   (∀ i, (i, 2) ∈ l → ∃ o T, ops[i]? = some o ∧ o.guard = none ∧ o.op = .alloc T ∧ AllocIs P T (zc T)) → (hasAlloc l = true → ∀ b, U b → b < w.heap.size) →
   wpF P ops Q zc l U a w → wpAnyG P md ops Q n listed a w := by
 intro n
 induction n with
 | zero =>
  intro l hl f listed U a w hc hok hA hU h
  have : l = [] := List.eq_nil_of_length_eq_zero hl
  subst this
  cases f with
  | zero => simp [okF] at hok
  | succ f => exact ⟨by simpa [okF] using hok, h⟩
 | succ n ih =>
  intro l hl f listed U a w hc hok hA hU h
  match l, hl with
  | (i, k) :: rest, hl =>
  have hl' : rest.length = n := by simpa using hl
  have hA' : ∀ i, (i, 2) ∈ rest → ∃ o T, ops[i]? = some o ∧ o.guard = none ∧ o.op = .alloc T ∧ AllocIs P T (zc T) := fun i hi => hA i (List.mem_cons_of_mem _ hi)
  cases f with
  | zero => simp [okF] at hok
  | succ f =>
  have h0 := h
  obtain ⟨o, ho, h⟩ := h
  unfold okF at hok
  simp only [Bool.and_eq_true] at hok
  obtain ⟨hr, hok⟩ := hok
  have hr' : i ∈ Region.ready md ops listed := by simpa using hr
  by_cases hk1 : k = 1
  ·subst hk1
   have hU' : hasAlloc rest = true → ∀ b, U b → b < w.heap.size := fun hh => hU (by simp [hasAlloc, hh])
   rw [if_pos rfl, Bool.and_eq_true] at hok
   rw [if_neg (by omega)] at h
   by_cases hw : Region.wanted o (yielded ops a.tmps) = true
   ·rw [if_pos hw, if_pos rfl] at h
    obtain ⟨v, hv, h⟩ := h
    exact wpAnyG_first ho (Region.noSelect_spec hs) hQ n listed a w hc (freeG_spec ho hok.1) hr' (.mk hw hv) (ih rest hl' f _ U _ w (hc.set hr') hok.2 hA' hU' h)
   ·rw [if_neg hw] at h
    exact wpAnyG_first ho (Region.noSelect_spec hs) hQ n listed a w hc (freeG_spec ho hok.1) hr' (.inr ⟨by simpa using hw, rfl⟩) (ih rest hl' f _ U _ w (hc.set hr') hok.2 hA' hU' h)
  ·rw [if_neg hk1] at hok
   simp only [Bool.and_eq_true, List.all_eq_true] at hok
   obtain ⟨⟨hok, hst⟩, hall⟩ := hok
   refine ⟨fun hn => (by rw [hn] at hr'; cases hr'), fun j hj => ?_⟩
   by_cases hji : j = i
   ·subst hji
    unfold gOp wpOp
    simp only [ho]
    by_cases hk : k = 2
    ·subst hk
     rw [if_pos rfl] at h
     obtain ⟨o', T, ho', hg, hT, hAl⟩ := hA j List.mem_cons_self
     rw [ho] at ho'; cases ho'
     rw [if_pos (by simp [Region.wanted, hg])]
     refine .inl ?_
     unfold Oper.wp
     rw [exec_alloc hT hAl]
     simp only [Oper.upon]
     have g1 : Gr w (w.alloc (.cells (zc T) T)) := (Gr.refl w).alloc _
     refine ⟨fun _ _ _ => g1, ih rest hl' f _ _ _ _ (hc.set hr') hok hA' (fun hh b hb => ?_) (h T hT _ _ g1 (Fresh.new _ _ w) (fun hb => ?_))⟩
     ·rw [World.size_alloc]
      rcases hb with hb | hb
      ·have := hU (by simp [hasAlloc]) b hb; omega
      ·omega
     ·have := hU (by simp [hasAlloc]) _ hb; omega
    ·rw [if_neg hk] at h
     by_cases hw : Region.wanted o (yielded ops a.tmps) = true
     ·rw [if_pos hw, if_neg hk1] at h
      rw [if_pos hw]
      refine .inl (Oper.wp_mono (fun a' w' hkk => ⟨fun o' ho' => ?_, ?_⟩) (h w (Gr.refl w)))
      ·cases ho'; exact hkk.1
      ·refine ih rest hl' f _ U a' w' (hc.set hr') hok hA' (fun hh b hb => ?_) hkk.2
       have h1 := hU (by simp [hasAlloc, hh]) b hb
       have h2 : isStore o = false := by simpa [hk, hh, ho] using hst
       exact Nat.lt_of_lt_of_le h1 (hkk.1 h2).size
     ·rw [if_neg hw] at h
      rw [if_neg hw]
      exact ⟨fun _ _ => relOf.refl _ _, ih rest hl' f _ U _ w (hc.set hr') hok hA' (fun hh => hU (by simp [hasAlloc, hh])) h⟩
   ·have hj2 := hall j hj
    simp only [Bool.or_eq_true, beq_iff_eq, hji, false_or, Bool.and_eq_true] at hj2
    obtain ⟨he, hokj⟩ := hj2
    cases hoj : ops[j]? with
    | none => simp [hoj] at he
    | some oj =>
     simp only [hoj] at he
     obtain ⟨hmem, hhas⟩ := earlyOK_mem _ he
     obtain ⟨oj', T, hoj', hg, hT, hAl⟩ := hA j hmem
     rw [hoj] at hoj'; cases hoj'
     unfold gOp wpOp
     simp only [hoj]
     rw [if_pos (by simp [Region.wanted, hg])]
     refine .inl ?_
     unfold Oper.wp
     rw [exec_alloc hT hAl]
     simp only [Oper.upon]
     have g1 : Gr w (w.alloc (.cells (zc T) T)) := (Gr.refl w).alloc _
     have hnU : ¬ U w.heap.size := fun hb => by have := hU hhas _ hb; omega
     have hE := wpF_early hoj hT (Region.noSelect_spec hs) hQ' _ U a _ he (Fresh.new (zc T) T w) hnU (wpF_grow _ U a w _ hhas g1 h0)
     have hlen := eraseF_length _ he
     refine ⟨fun _ _ _ => g1, ih (eraseF j ((i, k) :: rest)) (by omega) f _ _ _ _ (hc.set hj) hokj (fun i' hi' => hA i' (mem_eraseF _ _ hi')) (fun _ b hb => ?_) hE⟩
     rw [World.size_alloc]
     rcases hb with hb | hb
     ·have := hU hhas b hb; omega
     ·omega

theorem wp_region_late {id : Nat} {a : Act} {w : World} (zc : TypeId → Array Value) (f : Nat) (order : List (Nat × Nat)) (hm : P.follows .mixedOrders = true) (hs : Region.noSelect ops = true)
  (hn : order.length = ops.size) (hB : okF .any ops f order (Array.replicate ops.size false) = true) (hQ : ∀ c a d v w, Q (.panic c) (a.put d v) w → Q (.panic c) a w) (hQ' : ∀ c a d v w, Q (.panic c) a w → Q (.panic c) (a.put d v) w)
  (hA : ∀ i, (i, 2) ∈ order → ∃ o T, ops[i]? = some o ∧ o.guard = none ∧ o.op = .alloc T ∧ AllocIs P T (zc T))
  (h : wpF P ops Q zc order (fun b => b < w.heap.size) a w.drew) : (Code.region id ops true).wp P Q a w := by
 refine wp_region_any hm (wpAny_of_G _ _ _ _ ?_)
 have := wpAnyG_F (md := .any) hs hQ hQ' order.length order rfl f (Array.replicate ops.size false) (fun b => b < w.heap.size) a w.drew
  (fun j o _ hl => by simp [Array.getElem?_replicate] at hl; split at hl <;> simp at hl) hB hA (fun _ b hb => hb) h
 rw [hn] at this
 exact this

variable {rest : List (Nat × Nat)} {U : Nat → Prop} {a : Act} {w : World} {o : Oper} {i : Nat}
theorem wpF_nil (h : Q .normal a w) : wpF P ops Q zc [] U a w := h
theorem wpF_readB {wb : World} (hb : Gr wb w) (ho : ops[i]? = some o) (hw : Region.wanted o (yielded ops a.tmps) = true) {v : Value} (hv : ∀ w', Gr wb w' → (execOp a.eval o).run P w' = .ok (.value v) w')
  (h : ∀ K : Act → World → Prop, (∀ a w, wpF P ops Q zc rest U a w → K a w) → K (a.put o.dst v) w) : wpF P ops Q zc ((i, 1) :: rest) U a w :=
 ⟨o, ho, by rw [if_neg (by omega), if_pos hw, if_pos rfl]; exact ⟨v, fun w' hg => hv w' (hb.trans hg), h _ (fun _ _ h => h)⟩⟩
theorem wpF_do (ho : ops[i]? = some o) (hw : Region.wanted o (yielded ops a.tmps) = true)
  (h : ∀ K : Act → World → Prop, (∀ a w, wpF P ops Q zc rest U a w → K a w) → ∀ w1, Gr w w1 → Oper.wp P o a w1 (fun a' w' => relOf o w1 w' ∧ K a' w') Q) : wpF P ops Q zc ((i, 0) :: rest) U a w :=
 ⟨o, ho, by rw [if_neg (by omega), if_pos hw, if_neg (by omega)]; exact h _ (fun _ _ h => h)⟩
theorem wpF_new {T : TypeId} (ho : ops[i]? = some o) (hT : o.op = .alloc T)
  (h : ∀ K : Act → World → Prop, ∀ w1 b, Gr w w1 → Fresh (zc T) T b w1 → ¬ U b → (∀ a w, wpF P ops Q zc rest (fun x => U x ∨ x = b) a w → K a w) → K (a.put o.dst (.pointer (some ⟨b, 0, none⟩))) w1) : wpF P ops Q zc ((i, 2) :: rest) U a w :=
 ⟨o, ho, by rw [if_pos rfl]; intro T' hT' w1 b g f n; rw [hT] at hT'; cases hT'; exact h _ w1 b g f n (fun _ _ h => h)⟩
end
end Go.Proofs.YtnlocdijdfclcaaGreatDoor

/-
 A quicker check that an order of ours fits a region that draws its own: sets of operations as bits of a number.
-/
import Derived.Test.YtnlocdijdfclcaaGreatDoorBase
namespace Go.Proofs.YtnlocdijdfclcaaGreatDoor
open Go.RowKit
set_option linter.unusedVariables false
set_option linter.unusedSimpArgs false

section region
variable {P : Program} {ops : Array Oper} {md : Region.Mode} {Q : Exit → Act → World → Prop}

def predsM (md : Region.Mode) : List Edge → Nat
 | [] => 0
 | e :: l => bif Region.binds md e then Nat.lor (Nat.pow 2 e.on) (predsM md l) else predsM md l

theorem predsM_bit {k : Nat} : ∀ l : List Edge, (predsM md l).testBit k = true ↔ ∃ e ∈ l, Region.binds md e = true ∧ e.on = k
 | [] => by simp [predsM]
 | e :: l => by
  have ih := predsM_bit (k := k) l
  unfold predsM
  cases hb : Region.binds md e
  ·simp [ih, hb]
  ·show ((2 ^ e.on ||| predsM md l).testBit k = true) ↔ _
   rw [Nat.testBit_or, Bool.or_eq_true, ih, Nat.testBit_two_pow]
   simp [hb]

def subM (p L : Nat) : Bool := Nat.beq (Nat.land p L) p
theorem subM_iff {p L : Nat} : subM p L = true ↔ ∀ k, p.testBit k = true → L.testBit k = true := by
 unfold subM
 rw [Nat.beq_eq]
 show (p &&& L = p) ↔ _
 constructor
 ·intro h k hk
  rw [← h, Nat.testBit_and, Bool.and_eq_true] at hk
  exact hk.2
 ·intro h
  apply Nat.eq_of_testBit_eq
  intro k
  rw [Nat.testBit_and]
  cases hp : p.testBit k
  ·rfl
  ·rw [h k hp]; rfl

def tb (m n : Nat) : Bool := Nat.beq (Nat.land 1 (Nat.shiftRight m n)) 1
theorem tb_eq (m n : Nat) : tb m n = m.testBit n := by
 unfold tb Nat.testBit
 have h : Nat.land 1 (Nat.shiftRight m n) = (m >>> n) % 2 := by
  show 1 &&& (m >>> n) = _
  rw [Nat.and_comm, Nat.and_one_is_mod]
 show Nat.beq (Nat.land 1 (Nat.shiftRight m n)) 1 = (1 &&& (m >>> n) != 0)
 rw [show 1 &&& (m >>> n) = Nat.land 1 (Nat.shiftRight m n) from rfl, h]
 have := Nat.mod_lt (m >>> n) (show 0 < 2 by decide)
 generalize (m >>> n) % 2 = x at *
 match x, this with
 | 0, _ => rfl
 | 1, _ => rfl

def waitsM (md : Region.Mode) (I : Nat) : List Oper → Nat → Nat → Nat
 | [], _, W => W
 | o :: l, k, W => bif Nat.beq (Nat.land (predsM md o.after.toList) (Nat.lor W I)) 0 then waitsM md I l (k + 1) W else waitsM md I l (k + 1) (Nat.lor W (Nat.pow 2 k))

theorem waitsM_spec {i : Nat} : ∀ (l : List Oper) (k W : Nat), (∀ j, l[j]? = ops[k + j]?) → (∀ j, W.testBit j = true → Waits md ops i j) →
  ∀ j, (waitsM md (2 ^ i) l k W).testBit j = true → Waits md ops i j
 | [], _, _, _, hW => hW
 | o :: l, k, W, hl, hW => by
  have hl' : ∀ j, l[j]? = ops[k + 1 + j]? := fun j => by
   have := hl (j + 1)
   simpa [Nat.add_assoc, Nat.add_comm 1 j] using this
  have h0 : ops[k]? = some o := by simpa using (hl 0).symm
  unfold waitsM
  cases hb : Nat.beq (Nat.land (predsM md o.after.toList) (Nat.lor W (2 ^ i))) 0
  ·refine waitsM_spec l (k + 1) _ hl' (fun j hj => ?_)
   have hj : (W ||| 2 ^ k).testBit j = true := hj
   rw [Nat.testBit_or, Bool.or_eq_true, Nat.testBit_two_pow] at hj
   rcases hj with hj | hj
   ·exact hW j hj
   ·obtain rfl : k = j := by simpa using hj
    have hne : predsM md o.after.toList &&& (W ||| 2 ^ i) ≠ 0 := fun h => by
     rw [show Nat.land (predsM md o.after.toList) (Nat.lor W (2 ^ i)) = predsM md o.after.toList &&& (W ||| 2 ^ i) from rfl, h] at hb
     cases hb
    obtain ⟨t, ht⟩ := Nat.exists_testBit_of_ne_zero hne
    rw [Nat.testBit_and, Nat.testBit_or, Bool.and_eq_true, Bool.or_eq_true, Nat.testBit_two_pow] at ht
    obtain ⟨e, he, hbe, rfl⟩ := (predsM_bit _).1 ht.1
    have he : e ∈ o.after := by simpa using he
    rcases ht.2 with h | h
    ·exact .step h0 he hbe (hW _ h)
    ·exact .base h0 he hbe (by simpa using Eq.symm (by simpa using h))
  ·exact waitsM_spec l (k + 1) _ hl' hW

def freeM (ops : Array Oper) (oi : Oper) (skip : Nat) : List Oper → Nat → Bool
 | [], _ => true
 | o :: l, j => (tb skip j || (oi.apart ops o && (!isStore o || pureOp oi))) && freeM ops oi skip l (j + 1)
theorem freeM_spec {oi : Oper} {skip : Nat} : ∀ (l : List Oper) (k : Nat), (∀ j, l[j]? = ops[k + j]?) → freeM ops oi skip l k = true →
  ∀ j o, k ≤ j → ops[j]? = some o → skip.testBit j = false → oi.apart ops o = true ∧ (isStore o = false ∨ pureOp oi = true)
 | [], k, hl, _, j, o, hk, hj, _ => by
  have := hl (j - k)
  rw [show k + (j - k) = j by omega, hj] at this
  cases this
 | o' :: l, k, hl, h, j, o, hk, hj, hs => by
  unfold freeM at h
  rw [Bool.and_eq_true] at h
  by_cases hjk : j = k
  ·subst hjk
   have h0 : ops[j]? = some o' := by simpa using (hl 0).symm
   rw [h0] at hj
   cases hj
   have h1 := h.1
   rw [tb_eq, hs, Bool.false_or] at h1
   simpa using h1
  ·exact freeM_spec l (k + 1) (fun j => by have := hl (j + 1); simpa [Nat.add_assoc, Nat.add_comm 1 j] using this) h.2 j o (by omega) hj hs

def onlyM (md : Region.Mode) (L skip : Nat) : List Oper → Nat → Bool
 | [], _ => true
 | o :: l, j => (tb skip j || !subM (predsM md o.after.toList) L) && onlyM md L skip l (j + 1)
theorem onlyM_spec {L skip : Nat} : ∀ (l : List Oper) (k : Nat), (∀ j, l[j]? = ops[k + j]?) → onlyM md L skip l k = true →
  ∀ j o, k ≤ j → ops[j]? = some o → skip.testBit j = false → subM (predsM md o.after.toList) L = false
 | [], k, hl, _, j, o, hk, hj, _ => by
  have := hl (j - k)
  rw [show k + (j - k) = j by omega, hj] at this
  cases this
 | o' :: l, k, hl, h, j, o, hk, hj, hs => by
  unfold onlyM at h
  rw [Bool.and_eq_true] at h
  by_cases hjk : j = k
  ·subst hjk
   have h0 : ops[j]? = some o' := by simpa using (hl 0).symm
   rw [h0] at hj
   cases hj
   have h1 := h.1
   rw [tb_eq, hs, Bool.false_or] at h1
   simpa using h1
  ·exact onlyM_spec l (k + 1) (fun j => by have := hl (j + 1); simpa [Nat.add_assoc, Nat.add_comm 1 j] using this) h.2 j o (by omega) hj hs

def fastB (md : Region.Mode) (ops : Array Oper) (os : List Oper) : List (Nat × Bool) → Nat → Bool
 | [], L => onlyM md L L os 0
 | (i, r) :: rest, L => match os[i]? with
  | none => false
  | some oi => (!tb L i && subM (predsM md oi.after.toList) L) &&
   ((bif r then freeM ops oi (Nat.lor (Nat.lor L (Nat.pow 2 i)) (waitsM md (Nat.pow 2 i) os 0 0)) os 0 else onlyM md L (Nat.lor L (Nat.pow 2 i)) os 0) &&
    fastB md ops os rest (Nat.lor L (Nat.pow 2 i)))

theorem ready_of {L : Nat} {listed : Array Bool} (hs : listed.size = ops.size) (hL : ∀ j, listed.getD j false = L.testBit j) {i : Nat} {o : Oper} (ho : ops[i]? = some o) :
  i ∈ Region.ready md ops listed ↔ L.testBit i = false ∧ subM (predsM md o.after.toList) L = true := by
 have hi : i < listed.size := by rw [hs]; exact (Array.getElem?_eq_some_iff.1 ho).1
 have e : listed.getD i true = L.testBit i := by rw [← hL i]; simp [hi]
 rw [mem_ready, e, subM_iff]
 constructor
 ·rintro ⟨h1, o', ho', h2⟩
  rw [ho] at ho'
  cases ho'
  refine ⟨h1, fun k hk => ?_⟩
  obtain ⟨e, he, hb, rfl⟩ := (predsM_bit _).1 hk
  rw [← hL]; exact h2 e (by simpa using he) hb
 ·rintro ⟨h1, h2⟩
  exact ⟨h1, o, ho, fun e he hb => by rw [hL]; exact h2 _ ((predsM_bit _).2 ⟨e, by simpa using he, hb, rfl⟩)⟩

theorem set_bits {L i : Nat} {listed : Array Bool} (hi : i < listed.size) (hL : ∀ j, listed.getD j false = L.testBit j) (j : Nat) :
  (listed.setIfInBounds i true).getD j false = (Nat.lor L (Nat.pow 2 i)).testBit j := by
 show _ = (L ||| 2 ^ i).testBit j
 rw [Nat.testBit_or, Nat.testBit_two_pow, ← hL j]
 by_cases h : i = j
 ·subst h
  simp [hi]
 ·rw [getD_set_ne false h]
  simp [h]

theorem wpAnyG_fast (hs : Region.noSelect ops = true) (hQ : ∀ c a d v w, Q (.panic c) (a.put d v) w → Q (.panic c) a w) :
  ∀ (l : List (Nat × Bool)) (L : Nat) (listed : Array Bool) (a : Act) (w : World), listed.size = ops.size → (∀ j, listed.getD j false = L.testBit j) → Closed md ops listed → fastB md ops ops.toList l L = true → wpE P ops Q l a w → wpAnyG P md ops Q l.length listed a w
 | [], L, listed, a, w, hz, hL, _, hB, h => by
  refine ⟨?_, h⟩
  rw [List.eq_nil_iff_forall_not_mem]
  intro j hj
  obtain ⟨_, o, ho, _⟩ := mem_ready.1 hj
  have h1 := (ready_of hz hL ho).1 hj
  have h2 := onlyM_spec ops.toList 0 (by simp) hB j o (Nat.zero_le _) ho h1.1
  rw [h1.2] at h2
  cases h2
 | (i, r) :: l, L, listed, a, w, hz, hL, hc, hB, h => by
  obtain ⟨o, ho, h⟩ := h
  have hlt : i < listed.size := by rw [hz]; exact (Array.getElem?_eq_some_iff.1 ho).1
  have ho' : ops.toList[i]? = some o := by simpa using ho
  simp only [fastB, ho', Bool.and_eq_true, tb_eq] at hB
  obtain ⟨⟨hr1, hr2⟩, hf, hB'⟩ := hB
  have hr' : i ∈ Region.ready md ops listed := (ready_of hz hL ho).2 ⟨by simpa using hr1, hr2⟩
  have hz' : (listed.setIfInBounds i true).size = ops.size := by simpa using hz
  have hL' := set_bits hlt hL
  cases r
  ·have hf : onlyM md L (Nat.lor L (Nat.pow 2 i)) ops.toList 0 = true := hf
   have hone : ∀ j ∈ Region.ready md ops listed, j = i := fun j hj => by
    obtain ⟨_, oj, hoj, _⟩ := mem_ready.1 hj
    have h1 := (ready_of hz hL hoj).1 hj
    by_cases hji : j = i
    ·exact hji
    ·have h3 : (Nat.lor L (Nat.pow 2 i)).testBit j = false := by
      show (L ||| 2 ^ i).testBit j = false
      rw [Nat.testBit_or, h1.1, Nat.testBit_two_pow]
      simp [Ne.symm hji]
     have h2 := onlyM_spec ops.toList 0 (by simp) hf j oj (Nat.zero_le _) hoj h3
     rw [h1.2] at h2
     cases h2
   refine ⟨fun h0 => (by rw [h0] at hr'; cases hr'), fun j hj => ?_⟩
   obtain rfl := hone j hj
   have hc' : Closed md ops (listed.setIfInBounds j true) := hc.set hr'
   unfold gOp wpOp
   simp only [ho]
   by_cases hw : Region.wanted o (yielded ops a.tmps) = true
   ·rw [if_pos hw, if_neg (by simp)] at h
    rw [if_pos hw]
    refine .inl (Oper.wp_mono (fun a' w' hk => ⟨fun o' ho' => ?_, wpAnyG_fast hs hQ l _ _ _ _ hz' hL' hc' hB' hk.2⟩) h)
    cases ho'; exact hk.1
   ·rw [if_neg hw] at h
    rw [if_neg hw]
    exact ⟨fun _ _ => relOf.refl _ _, wpAnyG_fast hs hQ l _ _ _ _ hz' hL' hc' hB' h⟩
  ·have hf : freeM ops o (Nat.lor (Nat.lor L (Nat.pow 2 i)) (waitsM md (Nat.pow 2 i) ops.toList 0 0)) ops.toList 0 = true := hf
   have hfree : ∀ j oj, ops[j]? = some oj → j ≠ i → listed.getD j true = false → ¬ Waits md ops i j → o.apart ops oj = true ∧ (isStore oj = false ∨ pureOp o = true) := fun j oj hj hne hun hno => by
    refine freeM_spec ops.toList 0 (by simp) hf j oj (Nat.zero_le _) hj ?_
    have hjl : j < listed.size := by rw [hz]; exact (Array.getElem?_eq_some_iff.1 hj).1
    have e : listed.getD j true = L.testBit j := by rw [← hL j]; simp [hjl]
    show ((L ||| 2 ^ i) ||| waitsM md (2 ^ i) ops.toList 0 0).testBit j = false
    rw [Nat.testBit_or, Nat.testBit_or, ← e, hun, Nat.testBit_two_pow]
    cases hwt : (waitsM md (2 ^ i) ops.toList 0 0).testBit j
    ·simp [Ne.symm hne]
    ·exact absurd (waitsM_spec (md := md) (ops := ops) (i := i) ops.toList 0 0 (by simp) (by simp) j hwt) hno
   by_cases hw : Region.wanted o (yielded ops a.tmps) = true
   ·rw [if_pos hw, if_pos rfl] at h
    obtain ⟨v, hv, h⟩ := h
    exact wpAnyG_first ho (Region.noSelect_spec hs) hQ l.length listed a w hc hfree hr' (.mk hw hv) (wpAnyG_fast hs hQ l _ _ _ _ hz' hL' (hc.set hr') hB' h)
   ·rw [if_neg hw] at h
    exact wpAnyG_first ho (Region.noSelect_spec hs) hQ l.length listed a w hc hfree hr' (.inr ⟨by simpa using hw, rfl⟩) (wpAnyG_fast hs hQ l _ _ _ _ hz' hL' (hc.set hr') hB' h)

theorem wp_region_fast {id : Nat} {a : Act} {w : World} (order : List (Nat × Bool)) (hm : P.follows .mixedOrders = true) (hs : Region.noSelect ops = true)
  (hn : order.length = ops.size) (hB : fastB .any ops ops.toList order 0 = true) (hQ : ∀ c a d v w, Q (.panic c) (a.put d v) w → Q (.panic c) a w)
  (h : wpE P ops Q order a w.drew) : (Code.region id ops true).wp P Q a w := by
 refine wp_region_any hm (wpAny_of_G _ _ _ _ ?_)
 have := wpAnyG_fast (md := .any) hs hQ order 0 (Array.replicate ops.size false) a w.drew (by simp) (fun j => by
  rw [Nat.zero_testBit]
  by_cases hj : j < ops.size <;> simp [Array.getElem?_replicate, hj]) (fun j o _ hl => by simp [Array.getElem?_replicate] at hl; split at hl <;> simp at hl) hB h
 rw [hn] at this
 exact this
end region

theorem wpE_call {P : Program} {ops : Array Oper} {Q : Exit → Act → World → Prop} {i : Nat} {rest : List (Nat × Bool)} {a : Act} {w : World} {o : Oper} {f : FuncId} {args : Array Value}
  (ho : ops[i]? = some o) (hw : Region.wanted o (yielded ops a.tmps) = true) (hx : (execOp a.eval o).run P w = .ok (.enter f args) w)
  (h : ∀ K : Act → World → Prop, (∀ a w, wpE P ops Q rest a w → K a w) → Calls P f args w fun e w' => ∃ v, e = .returned v ∧ Gr w w' ∧ K (a.put o.dst v) w') : wpE P ops Q ((i, false) :: rest) a w := by
 refine wpE_do ho hw fun K hK => ?_
 unfold Oper.wp
 rw [hx]
 simp only [Oper.upon]
 refine (h K hK).mono ?_
 rintro e w' ⟨v, rfl, hg, hk⟩
 exact ⟨fun _ => hg, hk⟩

theorem exec_fn {P : Program} {ρ : Operand → Value} {o : Oper} {w : World} {c : Call} {x : Operand} {f : FuncId} {first caps : Array Value} {fn : Func} (hop : o.op = .call c) (hc : c.callee = .value x)
  (hx : ρ x = .func (.func f) first caps) (hf : P.funcs[f]? = some fn) (hn : (fn.name == "runtime.NumGoroutine") = false) (hb : fn.body.isNone = false) :
  (execOp ρ o).run P w = .ok (.enter f ((first ++ c.args.map ρ) ++ caps)) w := by
 have hn' : ¬ fn.name = "runtime.NumGoroutine" := by simpa using hn
 have hb' : ¬ fn.body = none := by intro h; rw [h] at hb; cases hb
 unfold execOp
 simp only [hop, resolve, hc, hx, Deferred.ofValue, invoke, callFunc]
 simp [go_sem, hf, hn', hb']

theorem wpE_fn {P : Program} {ops : Array Oper} {Q : Exit → Act → World → Prop} {i : Nat} {rest : List (Nat × Bool)} {a : Act} {w : World} {o : Oper} {c : Call} {x : Operand} {f : FuncId} {first caps args : Array Value} {fn : Func}
  (ho : ops[i]? = some o) (hw : Region.wanted o (yielded ops a.tmps) = true) (hop : o.op = .call c) (hc : c.callee = .value x) (hx : a.eval x = .func (.func f) first caps)
  (hf : P.funcs[f]? = some fn) (hn : (fn.name == "runtime.NumGoroutine") = false) (hb : fn.body.isNone = false) (hargs : (first ++ c.args.map a.eval) ++ caps = args)
  (h : ∀ K : Act → World → Prop, (∀ a w, wpE P ops Q rest a w → K a w) → Calls P f args w fun e w' => ∃ v, e = .returned v ∧ Gr w w' ∧ K (a.put o.dst v) w') : wpE P ops Q ((i, false) :: rest) a w :=
 wpE_call ho hw (by rw [exec_fn hop hc hx hf hn hb, hargs]) h
end Go.Proofs.YtnlocdijdfclcaaGreatDoor

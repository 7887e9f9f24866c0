/- Texts: Fast Tree NumE Fnv Inv Erlc Stip Erld. -/
import Derived.Test.YtcjgimlcefhhmaaGreatDoorW1
import Derived.Test.YtcjgimlcefhhmaaGreatDoorW11
set_option linter.unusedVariables false
set_option linter.unusedSimpArgs false
set_option maxRecDepth 100000
set_option maxHeartbeats 12800000
namespace Go.Proofs.YtcjgimlcefhhmaaGreatDoor
open Go.RowKit
section region
variable {P : Program} {ops : Array Oper} {md : Region.Mode} {Q : Exit → Act → World → Prop}
def predsM (md : Region.Mode) : List Edge → Nat
 | [] => 0
 | e :: l => bif Region.binds md e then Nat.lor (Nat.pow 2 e.on) (predsM md l) else predsM md l
theorem ξ0i {k : Nat} : ∀ l : List Edge, (predsM md l).testBit k = true ↔ ∃ e ∈ l, Region.binds md e = true ∧ e.on = k
 | [] => by simp [predsM]
 | e :: l => by
  have ih := ξ0i (k := k) l
  unfold predsM
  cases hb : Region.binds md e
  ·simp [ih, hb]
  ·show ((2 ^ e.on ||| predsM md l).testBit k = true) ↔ _
   rw [Nat.testBit_or, Bool.or_eq_true, ih, Nat.testBit_two_pow]
   simp [hb]
def subM (p L : Nat) : Bool := Nat.beq (Nat.land p L) p
theorem ξ4D {p L : Nat} : subM p L = true ↔ ∀ k, p.testBit k = true → L.testBit k = true := by
 unfold subM
 rw [Nat.beq_eq]
 show (p &&& L = p) ↔ _
 constructor
 ·intro h k hk
  rw [← h, Nat.testBit_and, Bool.and_eq_true] at hk
  exact hk.2
 ·intro h
  apply Nat.eq_of_testBit_eq
  intro k
  rw [Nat.testBit_and]
  cases hp : p.testBit k
  ·rfl
  ·rw [h k hp]; rfl
def tb (m n : Nat) : Bool := Nat.beq (Nat.land 1 (Nat.shiftRight m n)) 1
theorem ξ2n (m n : Nat) : tb m n = m.testBit n := by
 unfold tb Nat.testBit
 have h : Nat.land 1 (Nat.shiftRight m n) = (m >>> n) % 2 := by
  show 1 &&& (m >>> n) = _
  rw [Nat.and_comm, Nat.and_one_is_mod]
 show Nat.beq (Nat.land 1 (Nat.shiftRight m n)) 1 = (1 &&& (m >>> n) != 0)
 rw [show 1 &&& (m >>> n) = Nat.land 1 (Nat.shiftRight m n) from rfl, h]
 have := Nat.mod_lt (m >>> n) (show 0 < 2 by decide)
 generalize (m >>> n) % 2 = x at *
 match x, this with
 | 0, _ => rfl
 | 1, _ => rfl
def waitsM (md : Region.Mode) (I : Nat) : List Oper → Nat → Nat → Nat
 | [], _, W => W
 | o :: l, k, W => bif Nat.beq (Nat.land (predsM md o.after.toList) (Nat.lor W I)) 0 then waitsM md I l (k + 1) W else waitsM md I l (k + 1) (Nat.lor W (Nat.pow 2 k))
theorem ξ0k {i : Nat} : ∀ (l : List Oper) (k W : Nat), (∀ j, l[j]? = ops[k + j]?) → (∀ j, W.testBit j = true → ξA md ops i j) →
  ∀ j, (waitsM md (2 ^ i) l k W).testBit j = true → ξA md ops i j
 | [], _, _, _, hW => hW
 | o :: l, k, W, hl, hW => by
  have hl' : ∀ j, l[j]? = ops[k + 1 + j]? := fun j => by
   have := hl (j + 1)
   simpa [Nat.add_assoc, Nat.add_comm 1 j] using this
  have h0 : ops[k]? = some o := by simpa using (hl 0).symm
  unfold waitsM
  cases hb : Nat.beq (Nat.land (predsM md o.after.toList) (Nat.lor W (2 ^ i))) 0
  ·refine ξ0k l (k + 1) _ hl' (fun j hj => ?_)
   have hj : (W ||| 2 ^ k).testBit j = true := hj
   rw [Nat.testBit_or, Bool.or_eq_true, Nat.testBit_two_pow] at hj
   rcases hj with hj | hj
   ·exact hW j hj
   ·obtain rfl : k = j := by simpa using hj
    have hne : predsM md o.after.toList &&& (W ||| 2 ^ i) ≠ 0 := fun h => by
     rw [show Nat.land (predsM md o.after.toList) (Nat.lor W (2 ^ i)) = predsM md o.after.toList &&& (W ||| 2 ^ i) from rfl, h] at hb
     cases hb
    obtain ⟨t, ht⟩ := Nat.exists_testBit_of_ne_zero hne
    rw [Nat.testBit_and, Nat.testBit_or, Bool.and_eq_true, Bool.or_eq_true, Nat.testBit_two_pow] at ht
    obtain ⟨e, he, hbe, rfl⟩ := (ξ0i _).1 ht.1
    have he : e ∈ o.after := by simpa using he
    rcases ht.2 with h | h
    ·exact .step h0 he hbe (hW _ h)
    ·exact .base h0 he hbe (by simpa using Eq.symm (by simpa using h))
  ·exact ξ0k l (k + 1) _ hl' hW
def freeM (ops : Array Oper) (oi : Oper) (skip : Nat) : List Oper → Nat → Bool
 | [], _ => true
 | o :: l, j => (tb skip j || (oi.apart ops o && (!isStore o || pureOp oi))) && freeM ops oi skip l (j + 1)
theorem ξ1H {oi : Oper} {skip : Nat} : ∀ (l : List Oper) (k : Nat), (∀ j, l[j]? = ops[k + j]?) → freeM ops oi skip l k = true →
  ∀ j o, k ≤ j → ops[j]? = some o → skip.testBit j = false → oi.apart ops o = true ∧ (isStore o = false ∨ pureOp oi = true)
 | [], k, hl, _, j, o, hk, hj, _ => by
  have := hl (j - k)
  rw [show k + (j - k) = j by omega, hj] at this
  cases this
 | o' :: l, k, hl, h, j, o, hk, hj, hs => by
  unfold freeM at h
  rw [Bool.and_eq_true] at h
  by_cases hjk : j = k
  ·subst hjk
   have h0 : ops[j]? = some o' := by simpa using (hl 0).symm
   rw [h0] at hj
   cases hj
   have h1 := h.1
   rw [ξ2n, hs, Bool.false_or] at h1
   simpa using h1
  ·exact ξ1H l (k + 1) (fun j => by have := hl (j + 1); simpa [Nat.add_assoc, Nat.add_comm 1 j] using this) h.2 j o (by omega) hj hs
def onlyM (md : Region.Mode) (L skip : Nat) : List Oper → Nat → Bool
 | [], _ => true
 | o :: l, j => (tb skip j || !subM (predsM md o.after.toList) L) && onlyM md L skip l (j + 1)
theorem ξ0b {L skip : Nat} : ∀ (l : List Oper) (k : Nat), (∀ j, l[j]? = ops[k + j]?) → onlyM md L skip l k = true →
  ∀ j o, k ≤ j → ops[j]? = some o → skip.testBit j = false → subM (predsM md o.after.toList) L = false
 | [], k, hl, _, j, o, hk, hj, _ => by
  have := hl (j - k)
  rw [show k + (j - k) = j by omega, hj] at this
  cases this
 | o' :: l, k, hl, h, j, o, hk, hj, hs => by
  unfold onlyM at h
  rw [Bool.and_eq_true] at h
  by_cases hjk : j = k
  ·subst hjk
   have h0 : ops[j]? = some o' := by simpa using (hl 0).symm
   rw [h0] at hj
   cases hj
   have h1 := h.1
   rw [ξ2n, hs, Bool.false_or] at h1
   simpa using h1
  ·exact ξ0b l (k + 1) (fun j => by have := hl (j + 1); simpa [Nat.add_assoc, Nat.add_comm 1 j] using this) h.2 j o (by omega) hj hs
def fastB (md : Region.Mode) (ops : Array Oper) (os : List Oper) : List (Nat × Bool) → Nat → Bool
 | [], L => onlyM md L L os 0
 | (i, r) :: rest, L => match os[i]? with
  | none => false
  | some oi => (!tb L i && subM (predsM md oi.after.toList) L) &&
   ((bif r then freeM ops oi (Nat.lor (Nat.lor L (Nat.pow 2 i)) (waitsM md (Nat.pow 2 i) os 0 0)) os 0 else onlyM md L (Nat.lor L (Nat.pow 2 i)) os 0) &&
    fastB md ops os rest (Nat.lor L (Nat.pow 2 i)))
theorem ξ0o {L : Nat} {listed : Array Bool} (hs : listed.size = ops.size) (hL : ∀ j, listed.getD j false = L.testBit j) {i : Nat} {o : Oper} (ho : ops[i]? = some o) :
  i ∈ Region.ready md ops listed ↔ L.testBit i = false ∧ subM (predsM md o.after.toList) L = true := by
 have hi : i < listed.size := by rw [hs]; exact (Array.getElem?_eq_some_iff.1 ho).1
 have e : listed.getD i true = L.testBit i := by rw [← hL i]; simp [hi]
 rw [mem_ready, e, ξ4D]
 constructor
 ·rintro ⟨h1, o', ho', h2⟩
  rw [ho] at ho'
  cases ho'
  refine ⟨h1, fun k hk => ?_⟩
  obtain ⟨e, he, hb, rfl⟩ := (ξ0i _).1 hk
  rw [← hL]; exact h2 e (by simpa using he) hb
 ·rintro ⟨h1, h2⟩
  exact ⟨h1, o, ho, fun e he hb => by rw [hL]; exact h2 _ ((ξ0i _).2 ⟨e, by simpa using he, hb, rfl⟩)⟩
theorem ξ2L {L i : Nat} {listed : Array Bool} (hi : i < listed.size) (hL : ∀ j, listed.getD j false = L.testBit j) (j : Nat) :
  (listed.setIfInBounds i true).getD j false = (Nat.lor L (Nat.pow 2 i)).testBit j := by
 show _ = (L ||| 2 ^ i).testBit j
 rw [Nat.testBit_or, Nat.testBit_two_pow, ← hL j]
 by_cases h : i = j
 ·subst h
  simp [hi]
 ·rw [getD_set_ne false h]
  simp [h]
theorem ξZ (hs : Region.noSelect ops = true) (hQ : ∀ c a d v w, Q (.panic c) (a.put d v) w → Q (.panic c) a w) :
  ∀ (l : List (Nat × Bool)) (L : Nat) (listed : Array Bool) (a : Act) (w : World), listed.size = ops.size → (∀ j, listed.getD j false = L.testBit j) → ξB md ops listed → fastB md ops ops.toList l L = true → wpE P ops Q l a w → wpAnyG P md ops Q l.length listed a w
 | [], L, listed, a, w, hz, hL, _, hB, h => by
  refine ⟨?_, h⟩
  rw [List.eq_nil_iff_forall_not_mem]
  intro j hj
  obtain ⟨_, o, ho, _⟩ := mem_ready.1 hj
  have h1 := (ξ0o hz hL ho).1 hj
  have h2 := ξ0b ops.toList 0 (by simp) hB j o (Nat.zero_le _) ho h1.1
  rw [h1.2] at h2
  cases h2
 | (i, r) :: l, L, listed, a, w, hz, hL, hc, hB, h => by
  obtain ⟨o, ho, h⟩ := h
  have hlt : i < listed.size := by rw [hz]; exact (Array.getElem?_eq_some_iff.1 ho).1
  have ho' : ops.toList[i]? = some o := by simpa using ho
  simp only [fastB, ho', Bool.and_eq_true, ξ2n] at hB
  obtain ⟨⟨hr1, hr2⟩, hf, hB'⟩ := hB
  have hr' : i ∈ Region.ready md ops listed := (ξ0o hz hL ho).2 ⟨by simpa using hr1, hr2⟩
  have hz' : (listed.setIfInBounds i true).size = ops.size := by simpa using hz
  have hL' := ξ2L hlt hL
  cases r
  ·have hf : onlyM md L (Nat.lor L (Nat.pow 2 i)) ops.toList 0 = true := hf
   have hone : ∀ j ∈ Region.ready md ops listed, j = i := fun j hj => by
    obtain ⟨_, oj, hoj, _⟩ := mem_ready.1 hj
    have h1 := (ξ0o hz hL hoj).1 hj
    by_cases hji : j = i
    ·exact hji
    ·have h3 : (Nat.lor L (Nat.pow 2 i)).testBit j = false := by
      show (L ||| 2 ^ i).testBit j = false
      rw [Nat.testBit_or, h1.1, Nat.testBit_two_pow]
      simp [Ne.symm hji]
     have h2 := ξ0b ops.toList 0 (by simp) hf j oj (Nat.zero_le _) hoj h3
     rw [h1.2] at h2
     cases h2
   refine ⟨fun h0 => (by rw [h0] at hr'; cases hr'), fun j hj => ?_⟩
   obtain rfl := hone j hj
   have hc' : ξB md ops (listed.setIfInBounds j true) := hc.set hr'
   unfold gOp wpOp
   simp only [ho]
   by_cases hw : Region.wanted o (yielded ops a.tmps) = true
   ·rw [if_pos hw, if_neg (by simp)] at h
    rw [if_pos hw]
    refine .inl (Oper.wp_mono (fun a' w' hk => ⟨fun o' ho' => ?_, ξZ hs hQ l _ _ _ _ hz' hL' hc' hB' hk.2⟩) h)
    cases ho'; exact hk.1
   ·rw [if_neg hw] at h
    rw [if_neg hw]
    exact ⟨fun _ _ => relOf.refl _ _, ξZ hs hQ l _ _ _ _ hz' hL' hc' hB' h⟩
  ·have hf : freeM ops o (Nat.lor (Nat.lor L (Nat.pow 2 i)) (waitsM md (Nat.pow 2 i) ops.toList 0 0)) ops.toList 0 = true := hf
   have hfree : ∀ j oj, ops[j]? = some oj → j ≠ i → listed.getD j true = false → ¬ ξA md ops i j → o.apart ops oj = true ∧ (isStore oj = false ∨ pureOp o = true) := fun j oj hj hne hun hno => by
    refine ξ1H ops.toList 0 (by simp) hf j oj (Nat.zero_le _) hj ?_
    have hjl : j < listed.size := by rw [hz]; exact (Array.getElem?_eq_some_iff.1 hj).1
    have e : listed.getD j true = L.testBit j := by rw [← hL j]; simp [hjl]
    show ((L ||| 2 ^ i) ||| waitsM md (2 ^ i) ops.toList 0 0).testBit j = false
    rw [Nat.testBit_or, Nat.testBit_or, ← e, hun, Nat.testBit_two_pow]
    cases hwt : (waitsM md (2 ^ i) ops.toList 0 0).testBit j
    ·simp [Ne.symm hne]
    ·exact absurd (ξ0k (md := md) (ops := ops) (i := i) ops.toList 0 0 (by simp) (by simp) j hwt) hno
   by_cases hw : Region.wanted o (yielded ops a.tmps) = true
   ·rw [if_pos hw, if_pos rfl] at h
    obtain ⟨v, hv, h⟩ := h
    exact ξO ho (Region.noSelect_spec hs) hQ l.length listed a w hc hfree hr' (.mk hw hv) (ξZ hs hQ l _ _ _ _ hz' hL' (hc.set hr') hB' h)
   ·rw [if_neg hw] at h
    exact ξO ho (Region.noSelect_spec hs) hQ l.length listed a w hc hfree hr' (.inr ⟨by simpa using hw, rfl⟩) (ξZ hs hQ l _ _ _ _ hz' hL' (hc.set hr') hB' h)
theorem ξ3 {id : Nat} {a : Act} {w : World} (order : List (Nat × Bool)) (hm : P.follows .mixedOrders = true) (hs : Region.noSelect ops = true)
  (hn : order.length = ops.size) (hB : fastB .any ops ops.toList order 0 = true) (hQ : ∀ c a d v w, Q (.panic c) (a.put d v) w → Q (.panic c) a w)
  (h : wpE P ops Q order a w.drew) : (Code.region id ops true).wp P Q a w := by
 refine wp_region_any hm (ξ0u _ _ _ _ ?_)
 have := ξZ (md := .any) hs hQ order 0 (Array.replicate ops.size false) a w.drew (by simp) (fun j => by
  rw [Nat.zero_testBit]
  by_cases hj : j < ops.size <;> simp [Array.getElem?_replicate, hj]) (fun j o _ hl => by simp [Array.getElem?_replicate] at hl; split at hl <;> simp at hl) hB h
 rw [hn] at this
 exact this
end region
theorem ξ4E {P : Program} {ops : Array Oper} {Q : Exit → Act → World → Prop} {i : Nat} {rest : List (Nat × Bool)} {a : Act} {w : World} {o : Oper} {f : FuncId} {args : Array Value}
  (ho : ops[i]? = some o) (hw : Region.wanted o (yielded ops a.tmps) = true) (hx : (execOp a.eval o).run P w = .ok (.enter f args) w)
  (h : ∀ K : Act → World → Prop, (∀ a w, wpE P ops Q rest a w → K a w) → Calls P f args w fun e w' => ∃ v, e = .returned v ∧ Gr w w' ∧ K (a.put o.dst v) w') : wpE P ops Q ((i, false) :: rest) a w := by
 refine ξi ho hw fun K hK => ?_
 unfold Oper.wp
 rw [hx]
 simp only [Oper.upon]
 refine (h K hK).mono ?_
 rintro e w' ⟨v, rfl, hg, hk⟩
 exact ⟨fun _ => hg, hk⟩
theorem ξ43 {P : Program} {ρ : Operand → Value} {o : Oper} {w : World} {c : Call} {x : Operand} {f : FuncId} {first caps : Array Value} {fn : Func} (hop : o.op = .call c) (hc : c.callee = .value x)
  (hx : ρ x = .func (.func f) first caps) (hf : P.funcs[f]? = some fn) (hn : (fn.name == "runtime.NumGoroutine") = false) (hb : fn.body.isNone = false) :
  (execOp ρ o).run P w = .ok (.enter f ((first ++ c.args.map ρ) ++ caps)) w := by
 have hn' : ¬ fn.name = "runtime.NumGoroutine" := by simpa using hn
 have hb' : ¬ fn.body = none := by intro h; rw [h] at hb; cases hb
 unfold execOp
 simp only [hop, resolve, hc, hx, Deferred.ofValue, invoke, callFunc]
 simp [go_sem, hf, hn', hb']
theorem ξ7 {P : Program} {ops : Array Oper} {Q : Exit → Act → World → Prop} {i : Nat} {rest : List (Nat × Bool)} {a : Act} {w : World} {o : Oper} {c : Call} {x : Operand} {f : FuncId} {first caps args : Array Value} {fn : Func}
  (ho : ops[i]? = some o) (hw : Region.wanted o (yielded ops a.tmps) = true) (hop : o.op = .call c) (hc : c.callee = .value x) (hx : a.eval x = .func (.func f) first caps)
  (hf : P.funcs[f]? = some fn) (hn : (fn.name == "runtime.NumGoroutine") = false) (hb : fn.body.isNone = false) (hargs : (first ++ c.args.map a.eval) ++ caps = args)
  (h : ∀ K : Act → World → Prop, (∀ a w, wpE P ops Q rest a w → K a w) → Calls P f args w fun e w' => ∃ v, e = .returned v ∧ Gr w w' ∧ K (a.put o.dst v) w') : wpE P ops Q ((i, false) :: rest) a w :=
 ξ4E ho hw (by rw [ξ43 hop hc hx hf hn hb, hargs]) h
end Go.Proofs.YtcjgimlcefhhmaaGreatDoor
namespace Go.Proofs.YtcjgimlcefhhmaaGreatDoor
open Go.RowKit
inductive Tr where
 | stop : Tr
 | read : Nat → Tr → Tr
 | one : Nat → Tr → Tr
 | two : Nat → Tr → Nat → Tr → Tr
def Tr.len : Tr → Nat
 | .stop => 0
 | .read _ t => t.len + 1
 | .one _ t => t.len + 1
 | .two _ t _ _ => t.len + 1
section region
variable {P : Program} {ops : Array Oper} {md : Region.Mode} {Q : Exit → Act → World → Prop}
def readyM (md : Region.Mode) (os : List Oper) (L i : Nat) : Bool := match os[i]? with
 | none => false
 | some o => !tb L i && subM (predsM md o.after.toList) L
theorem ξ38 {L i : Nat} {listed : Array Bool} (hz : listed.size = ops.size) (hL : ∀ j, listed.getD j false = L.testBit j) (h : readyM md ops.toList L i = true) : i ∈ Region.ready md ops listed := by
 unfold readyM at h
 split at h
 ·cases h
 ·rename_i o ho
  simp only [Bool.and_eq_true, ξ2n] at h
  have ho' : ops[i]? = some o := by simpa using ho
  exact (ξ0o hz hL ho').2 ⟨by simpa using h.1, h.2⟩
end region
section steps
variable {P : Program} {ops : Array Oper} {Q : Exit → Act → World → Prop} {i : Nat} {t : Tr} {a : Act} {w : World} {o : Oper}
end steps
end Go.Proofs.YtcjgimlcefhhmaaGreatDoor
namespace Go.Proofs.YtcjgimlcefhhmaaGreatDoor
open Go.RowKit Go.Sort Go.Lib
theorem NatL.empty (w : World) (p : Option Addr) (b o : Nat) (h : p = some ⟨b, o, none⟩) : NatL w (.slice p 0 0) [] :=
 ⟨Dig.nil, p, 0, rfl, Nat.le_refl _, by omega, .inr ⟨b, o, h, fun i hi => by cases hi⟩⟩
end Go.Proofs.YtcjgimlcefhhmaaGreatDoor
namespace Go.Proofs.YtcjgimlcefhhmaaGreatDoor
open Go.RowKit
theorem ξao {P : Program} {ρ : Operand → Value} {o : Oper} {w : World} {c : Call} {x : Operand} {f : FuncId} {first caps : Array Value} (hop : o.op = .call c) (hc : c.callee = .value x)
  (hx : ρ x = .func (.func f) first caps) (he : ∀ args w, (callFunc f args).run P w = .ok (.enter f args) w) :
  (execOp ρ o).run P w = .ok (.enter f ((first ++ c.args.map ρ) ++ caps)) w := by
 unfold execOp
 simp only [hop, resolve, hc, hx, Deferred.ofValue, invoke]
 simp [go_sem, he]
end Go.Proofs.YtcjgimlcefhhmaaGreatDoor
namespace Go.Proofs.YtcjgimlcefhhmaaGreatDoor.Inv
open Go.RowKit
section region
variable {P : Program} {ops : Array Oper} {md : Region.Mode} {Q : Exit → Act → World → Prop} {B : World → Prop}
def bOp (P : Program) (ops : Array Oper) (Q : Exit → Act → World → Prop) (B : World → Prop) (i : Nat) (K : Act → World → Prop) (a : Act) (w : World) : Prop :=
 wpOp P ops Q i (fun a' w' => B w' ∧ K a' w') a w
def wpAnyB (P : Program) (md : Region.Mode) (ops : Array Oper) (Q : Exit → Act → World → Prop) (B : World → Prop) : Nat → Array Bool → Act → World → Prop
 | 0, listed, a, w => Region.ready md ops listed = [] ∧ Q .normal a w
 | fuel + 1, listed, a, w =>
  (Region.ready md ops listed = [] → Q .normal a w) ∧
  ∀ i ∈ Region.ready md ops listed, bOp P ops Q B i (wpAnyB P md ops Q B fuel (listed.setIfInBounds i true)) a w
theorem ξ1b : ∀ (fuel : Nat) (listed : Array Bool) (a : Act) (w : World), wpAnyB P md ops Q B fuel listed a w → wpAny P md ops Q fuel listed a w
 | 0, _, _, _, h => h
 | fuel + 1, _, _, _, h => ⟨h.1, fun i hi => wpOp_mono (fun a' w' hk => ξ1b fuel _ a' w' hk.2) (h.2 i hi)⟩
def ξX (P : Program) (ops : Array Oper) (B : World → Prop) (o : Oper) (v : Value) (a : Act) : Prop :=
 (Region.wanted o (yielded ops a.tmps) = true ∧ ∀ w', B w' → (execOp a.eval o).run P w' = .ok (.value v) w') ∨
 (Region.wanted o (yielded ops a.tmps) = false ∧ v = undef)
theorem ξX.of_same {o : Oper} {v : Value} {a a' : Act} (hy : ξX P ops B o v a) (he : execOp a'.eval o = execOp a.eval o)
  (hw : Region.wanted o (yielded ops a'.tmps) = Region.wanted o (yielded ops a.tmps)) : ξX P ops B o v a' := by
 unfold ξX at *
 rw [he, hw]
 exact hy
theorem ξX.bOp {i : Nat} {o : Oper} {v : Value} {a : Act} {w : World} (hi : ops[i]? = some o) (hB : B w) (hy : ξX P ops B o v a)
  {K : Act → World → Prop} (h : K (a.put o.dst v) w) : bOp P ops Q B i K a w := by
 unfold Proofs.YtcjgimlcefhhmaaGreatDoor.Inv.bOp wpOp
 simp only [hi]
 rcases hy with ⟨hw, hv⟩ | ⟨hw, rfl⟩
 ·simp only [hw, if_true, Oper.wp, hv w hB, Oper.upon]; exact .inl ⟨hB, h⟩
 ·simp only [hw, Bool.false_eq_true, if_false]; exact ⟨hB, h⟩
theorem ξbl {j : Nat} {oi oj : Oper} {v : Value} (hj : ops[j]? = some oj) (hap : oi.apart ops oj = true)
  (hsi : ∀ cs b, oi.op ≠ .select cs b) (hsj : ∀ cs b, oj.op ≠ .select cs b)
  (hQ : ∀ c a d v w, Q (.panic c) (a.put d v) w → Q (.panic c) a w) {K : Act → World → Prop} {a : Act} {w : World}
  (hy : ξX P ops B oi v a) (h : bOp P ops Q B j K (a.put oi.dst v) w) :
  bOp P ops Q B j (fun a' w' => ξX P ops B oi v a' ∧ K (a'.put oi.dst v) w') a w := by
 obtain ⟨h1, h2, h3⟩ := Oper.apart_spec hap
 have keep : ∀ (a : Act), ξX P ops B oi v a → ∀ u, ξX P ops B oi v (a.put oj.dst u) := fun a hy u =>
  hy.of_same (execOp_put oi hsi a oj.dst u h3) (wanted_put oi a oj.dst u h3)
 have keepD : ∀ d, ξX P ops B oi v a → ξX P ops B oi v { a with defers := d :: a.defers } := fun d hy => hy.of_same rfl rfl
 unfold bOp wpOp at *
 simp only [hj] at *
 rw [wanted_put oj a oi.dst v h1] at h
 split
 ·rename_i hw
  simp only [hw, if_true] at h
  rcases h with h | ⟨hasks, hlets⟩
  case inr => exact .inr ⟨by unfold Oper.asks at *; rw [execOp_put oj hsj a oi.dst v h1] at hasks; exact hasks, hlets⟩
  refine .inl ?_
  unfold Oper.wp at *
  rw [execOp_put oj hsj a oi.dst v h1] at h
  generalize (execOp a.eval oj).run P w = r at *
  cases r with
  | ok n w' =>
   cases n <;> simp only [Oper.upon] at h ⊢
   case value u => exact ⟨h.1, keep a hy u, by rw [← Act.put_comm a v u h2]; exact h.2⟩
   case skip => exact ⟨h.1, keep a hy _, by rw [← Act.put_comm a v undef h2]; exact h.2⟩
   case defer d =>
    refine ⟨h.1, keep _ (keepD d hy) _, ?_⟩
    rw [← Act.put_comm _ v undef h2, ← Act.put_defers]
    exact h.2
   case enter f args =>
    refine Calls.mono h fun e w'' he => ?_
    cases e with
    | returned u => exact ⟨he.1, keep a hy u, by rw [← Act.put_comm a v u h2]; exact he.2⟩
    | panicked c => exact hQ _ _ _ _ _ he
    | outgrown => exact he
   case row row args => exact Rows.mono h fun u w'' he => ⟨he.1, keep a hy u, by rw [← Act.put_comm a v u h2]; exact he.2⟩
  | halt x w' =>
   cases x <;> simp only [Oper.upon] at h ⊢
   case panic u => exact hQ _ _ _ _ _ h
 ·rename_i hw
  simp only [hw] at h
  exact ⟨h.1, keep a (hy) _, by rw [← Act.put_comm a v undef h2]; exact h.2⟩
theorem ξap {i : Nat} {a : Act} {w : World} {K K' : Act → World → Prop} (h : ∀ a w, B w → K a w → K' a w)
  (hh : bOp P ops Q B i K a w) : bOp P ops Q B i K' a w := wpOp_mono (fun a w hk => ⟨hk.1, h a w hk.1 hk.2⟩) hh
theorem ξY {i : Nat} {oi : Oper} {v : Value} (hi : ops[i]? = some oi) (hsel : ∀ (j : Nat) (o : Oper) cs b, ops[j]? = some o → o.op ≠ .select cs b)
  (hQ : ∀ c a d v w, Q (.panic c) (a.put d v) w → Q (.panic c) a w) :
  ∀ (fuel : Nat) (listed : Array Bool) (a : Act) (w : World), B w → ξB md ops listed →
   (∀ j oj, ops[j]? = some oj → j ≠ i → listed.getD j true = false → ¬ ξA md ops i j → oi.apart ops oj = true) →
   i ∈ Region.ready md ops listed → ξX P ops B oi v a →
   wpAnyB P md ops Q B fuel (listed.setIfInBounds i true) (a.put oi.dst v) w → wpAnyB P md ops Q B (fuel + 1) listed a w := by
 intro fuel
 induction fuel with
 | zero =>
  intro listed a w hB _ _ hr hy H
  refine ⟨fun h => (by rw [h] at hr; cases hr), fun j hj => ?_⟩
  by_cases hji : j = i
  ·subst hji; exact hy.bOp hi hB H
  ·have := ready_mono hj hji
   rw [H.1] at this
   cases this
 | succ fuel ih =>
  intro listed a w hB hc hfree hr hy H
  refine ⟨fun h => (by rw [h] at hr; cases hr), fun j hj => ?_⟩
  by_cases hji : j = i
  ·subst hji; exact hy.bOp hi hB H
  ·have h1 := H.2 j (ready_mono hj hji)
   obtain ⟨hjun, oj, hoj, hall⟩ := mem_ready.1 hj
   have hap := hfree j oj hoj hji hjun (ξA.not_ready hc hr hj)
   have h2 := ξbl hoj hap (fun cs b => hsel i oi cs b hi) (fun cs b => hsel j oj cs b hoj) hQ hy h1
   have hfree' : ∀ k ok, ops[k]? = some ok → k ≠ i → (listed.setIfInBounds j true).getD k true = false →
     ¬ ξA md ops i k → oi.apart ops ok = true := fun k ok hk hki hun hno => by
    refine hfree k ok hk hki ?_ hno
    by_cases hjk : j = k
    ·subst hjk; exact hjun
    ·rw [getD_set_ne true hjk] at hun; exact hun
   refine ξap (fun a' w' hB' h3 => ih (listed.setIfInBounds j true) a' w' hB' (hc.set hj) hfree' (ready_mono hr (Ne.symm hji)) h3.1 ?_) h2
   rw [Array.setIfInBounds_comm _ _ hji]
   exact h3.2
def wpL (P : Program) (ops : Array Oper) (Q : Exit → Act → World → Prop) (B : World → Prop) : Tr → Act → World → Prop
 | .stop, a, w => Q .normal a w
 | .read i t, a, w => ∃ o, ops[i]? = some o ∧
   if Region.wanted o (yielded ops a.tmps) = true then ∃ v, (∀ w', B w' → (execOp a.eval o).run P w' = .ok (.value v) w') ∧ wpL P ops Q B t (a.put o.dst v) w
   else wpL P ops Q B t (a.put o.dst undef) w
 | .one i t, a, w => ∃ o, ops[i]? = some o ∧
   if Region.wanted o (yielded ops a.tmps) = true then Oper.wp P o a w (fun a' w' => B w' ∧ wpL P ops Q B t a' w') Q
   else wpL P ops Q B t (a.put o.dst undef) w
 | .two i t j u, a, w =>
   (∃ o, ops[i]? = some o ∧ if Region.wanted o (yielded ops a.tmps) = true then Oper.wp P o a w (fun a' w' => B w' ∧ wpL P ops Q B t a' w') Q else wpL P ops Q B t (a.put o.dst undef) w) ∧
   (∃ o, ops[j]? = some o ∧ if Region.wanted o (yielded ops a.tmps) = true then Oper.wp P o a w (fun a' w' => B w' ∧ wpL P ops Q B u a' w') Q else wpL P ops Q B u (a.put o.dst undef) w)
def freeL (ops : Array Oper) (oi : Oper) (skip : Nat) : List Oper → Nat → Bool
 | [], _ => true
 | o :: l, j => (tb skip j || oi.apart ops o) && freeL ops oi skip l (j + 1)
theorem ξ4Q {oi : Oper} {skip : Nat} : ∀ (l : List Oper) (k : Nat), (∀ j, l[j]? = ops[k + j]?) → freeL ops oi skip l k = true →
  ∀ j o, k ≤ j → ops[j]? = some o → skip.testBit j = false → oi.apart ops o = true
 | [], k, hl, _, j, o, hk, hj, _ => by
  have := hl (j - k)
  rw [show k + (j - k) = j by omega, hj] at this
  cases this
 | o' :: l, k, hl, h, j, o, hk, hj, hs => by
  unfold freeL at h
  rw [Bool.and_eq_true] at h
  by_cases hjk : j = k
  ·subst hjk
   have h0 : ops[j]? = some o' := by simpa using (hl 0).symm
   rw [h0] at hj
   cases hj
   have h1 := h.1
   rw [ξ2n, hs, Bool.false_or] at h1
   exact h1
  ·exact ξ4Q l (k + 1) (fun j => by have := hl (j + 1); simpa [Nat.add_assoc, Nat.add_comm 1 j] using this) h.2 j o (by omega) hj hs
def looseB (md : Region.Mode) (ops : Array Oper) (os : List Oper) : Tr → Nat → Bool
 | .stop, L => onlyM md L L os 0
 | .read i t, L => match os[i]? with
  | none => false
  | some oi => readyM md os L i && (freeL ops oi (Nat.lor (Nat.lor L (Nat.pow 2 i)) (waitsM md (Nat.pow 2 i) os 0 0)) os 0 && looseB md ops os t (Nat.lor L (Nat.pow 2 i)))
 | .one i t, L => readyM md os L i && (onlyM md L (Nat.lor L (Nat.pow 2 i)) os 0 && looseB md ops os t (Nat.lor L (Nat.pow 2 i)))
 | .two i t j u, L => (readyM md os L i && readyM md os L j) && ((Nat.beq t.len u.len && onlyM md L (Nat.lor (Nat.lor L (Nat.pow 2 i)) (Nat.pow 2 j)) os 0) &&
   (looseB md ops os t (Nat.lor L (Nat.pow 2 i)) && looseB md ops os u (Nat.lor L (Nat.pow 2 j))))
theorem ξ6C (hs : Region.noSelect ops = true) (hQ : ∀ c a d v w, Q (.panic c) (a.put d v) w → Q (.panic c) a w) :
  ∀ (t : Tr) (L : Nat) (listed : Array Bool) (a : Act) (w : World), B w → listed.size = ops.size → (∀ j, listed.getD j false = L.testBit j) → ξB md ops listed → looseB md ops ops.toList t L = true → wpL P ops Q B t a w → wpAnyB P md ops Q B t.len listed a w := by
 have key : ∀ (i : Nat) (t : Tr) (L : Nat) (listed : Array Bool) (a : Act) (w : World), B w → listed.size = ops.size → (∀ j, listed.getD j false = L.testBit j) → ξB md ops listed → i ∈ Region.ready md ops listed →
   (∀ a w, B w → (listed.setIfInBounds i true).size = ops.size → (∀ j, (listed.setIfInBounds i true).getD j false = (Nat.lor L (Nat.pow 2 i)).testBit j) → ξB md ops (listed.setIfInBounds i true) → wpL P ops Q B t a w → wpAnyB P md ops Q B t.len (listed.setIfInBounds i true) a w) →
   (∃ o, ops[i]? = some o ∧ if Region.wanted o (yielded ops a.tmps) = true then Oper.wp P o a w (fun a' w' => B w' ∧ wpL P ops Q B t a' w') Q else wpL P ops Q B t (a.put o.dst undef) w) →
   bOp P ops Q B i (wpAnyB P md ops Q B t.len (listed.setIfInBounds i true)) a w := by
  intro i t L listed a w hB hz hL hc hr ih h
  obtain ⟨o, ho, h⟩ := h
  have hlt : i < listed.size := by rw [hz]; exact (Array.getElem?_eq_some_iff.1 ho).1
  have hz' : (listed.setIfInBounds i true).size = ops.size := by simpa using hz
  have hL' := ξ2L hlt hL
  have hc' : ξB md ops (listed.setIfInBounds i true) := hc.set hr
  unfold bOp wpOp
  simp only [ho]
  by_cases hw : Region.wanted o (yielded ops a.tmps) = true
  ·rw [if_pos hw] at h
   rw [if_pos hw]
   exact .inl (Oper.wp_mono (fun a' w' hk => ⟨hk.1, ih a' w' hk.1 hz' hL' hc' hk.2⟩) h)
  ·rw [if_neg hw] at h
   rw [if_neg hw]
   exact ⟨hB, ih _ _ hB hz' hL' hc' h⟩
 intro t
 induction t with
 | stop =>
  intro L listed a w hB hz hL _ hF h
  refine ⟨?_, h⟩
  rw [List.eq_nil_iff_forall_not_mem]
  intro j hj
  obtain ⟨_, o, ho, _⟩ := mem_ready.1 hj
  have h1 := (ξ0o hz hL ho).1 hj
  have h2 := ξ0b ops.toList 0 (by simp) hF j o (Nat.zero_le _) ho h1.1
  rw [h1.2] at h2
  cases h2
 | read i t ih =>
  intro L listed a w hB hz hL hc hF h
  obtain ⟨o, ho, h⟩ := h
  have hlt : i < listed.size := by rw [hz]; exact (Array.getElem?_eq_some_iff.1 ho).1
  have ho' : ops.toList[i]? = some o := by simpa using ho
  simp only [looseB, ho', Bool.and_eq_true] at hF
  obtain ⟨hr, hf, hF'⟩ := hF
  have hr' := ξ38 hz hL hr
  have hz' : (listed.setIfInBounds i true).size = ops.size := by simpa using hz
  have hL' := ξ2L hlt hL
  have hfree : ∀ j oj, ops[j]? = some oj → j ≠ i → listed.getD j true = false → ¬ ξA md ops i j → o.apart ops oj = true := fun j oj hj hne hun hno => by
   refine ξ4Q ops.toList 0 (by simp) hf j oj (Nat.zero_le _) hj ?_
   have hjl : j < listed.size := by rw [hz]; exact (Array.getElem?_eq_some_iff.1 hj).1
   have e : listed.getD j true = L.testBit j := by rw [← hL j]; simp [hjl]
   show ((L ||| 2 ^ i) ||| waitsM md (2 ^ i) ops.toList 0 0).testBit j = false
   rw [Nat.testBit_or, Nat.testBit_or, ← e, hun, Nat.testBit_two_pow]
   cases hwt : (waitsM md (2 ^ i) ops.toList 0 0).testBit j
   ·simp [Ne.symm hne]
   ·exact absurd (ξ0k (md := md) (ops := ops) (i := i) ops.toList 0 0 (by simp) (by simp) j hwt) hno
  by_cases hw : Region.wanted o (yielded ops a.tmps) = true
  ·rw [if_pos hw] at h
   obtain ⟨v, hv, h⟩ := h
   exact ξY ho (Region.noSelect_spec hs) hQ t.len listed a w hB hc hfree hr' (.inl ⟨hw, hv⟩) (ih _ _ _ _ hB hz' hL' (hc.set hr') hF' h)
  ·rw [if_neg hw] at h
   exact ξY ho (Region.noSelect_spec hs) hQ t.len listed a w hB hc hfree hr' (.inr ⟨by simpa using hw, rfl⟩) (ih _ _ _ _ hB hz' hL' (hc.set hr') hF' h)
 | one i t ih =>
  intro L listed a w hB hz hL hc hF h
  simp only [looseB, Bool.and_eq_true] at hF
  obtain ⟨hr, hf, hF'⟩ := hF
  have hr' := ξ38 hz hL hr
  refine ⟨fun h0 => (by rw [h0] at hr'; cases hr'), fun j hj => ?_⟩
  obtain ⟨_, oj, hoj, _⟩ := mem_ready.1 hj
  have h1 := (ξ0o hz hL hoj).1 hj
  have hji : j = i := by
   by_cases hji : j = i
   ·exact hji
   ·have h3 : (Nat.lor L (Nat.pow 2 i)).testBit j = false := by
     show (L ||| 2 ^ i).testBit j = false
     rw [Nat.testBit_or, h1.1, Nat.testBit_two_pow]
     simp [Ne.symm hji]
    have h2 := ξ0b ops.toList 0 (by simp) hf j oj (Nat.zero_le _) hoj h3
    rw [h1.2] at h2
    cases h2
  subst hji
  exact key j t L listed a w hB hz hL hc hj (fun a w hB h1 h2 h3 h4 => ih _ _ _ _ hB h1 h2 h3 hF' h4) h
 | two i t j u iht ihu =>
  intro L listed a w hB hz hL hc hF h
  simp only [looseB, Bool.and_eq_true] at hF
  obtain ⟨⟨hri, hrj⟩, ⟨hlen, hf⟩, hBt, hBu⟩ := hF
  have hri' := ξ38 hz hL hri
  have hlen' : t.len = u.len := Nat.eq_of_beq_eq_true hlen
  refine ⟨fun h0 => (by rw [h0] at hri'; cases hri'), fun k hk => ?_⟩
  obtain ⟨_, ok, hok, _⟩ := mem_ready.1 hk
  have h1 := (ξ0o hz hL hok).1 hk
  have hki : k = i ∨ k = j := by
   by_cases hki : k = i
   ·exact .inl hki
   ·by_cases hkj : k = j
    ·exact .inr hkj
    ·have h3 : (Nat.lor (Nat.lor L (Nat.pow 2 i)) (Nat.pow 2 j)).testBit k = false := by
      show ((L ||| 2 ^ i) ||| 2 ^ j).testBit k = false
      rw [Nat.testBit_or, Nat.testBit_or, h1.1, Nat.testBit_two_pow, Nat.testBit_two_pow]
      simp [Ne.symm hki, Ne.symm hkj]
     have h2 := ξ0b ops.toList 0 (by simp) hf k ok (Nat.zero_le _) hok h3
     rw [h1.2] at h2
     cases h2
  rcases hki with rfl | rfl
  ·exact key k t L listed a w hB hz hL hc hk (fun a w hB h1 h2 h3 h4 => iht _ _ _ _ hB h1 h2 h3 hBt h4) h.1
  ·show bOp P ops Q B k (wpAnyB P md ops Q B t.len (listed.setIfInBounds k true)) a w
   rw [hlen']
   exact key k u L listed a w hB hz hL hc hk (fun a w hB h1 h2 h3 h4 => ihu _ _ _ _ hB h1 h2 h3 hBu h4) h.2
theorem ξW {id : Nat} {a : Act} {w : World} (B : World → Prop) (t : Tr) (hB : B w.drew) (hm : P.follows .mixedOrders = true) (hs : Region.noSelect ops = true)
  (hn : t.len = ops.size) (hF : looseB .any ops ops.toList t 0 = true) (hQ : ∀ c a d v w, Q (.panic c) (a.put d v) w → Q (.panic c) a w)
  (h : wpL P ops Q B t a w.drew) : (Code.region id ops true).wp P Q a w := by
 refine wp_region_any hm (ξ1b _ _ _ _ (B := B) ?_)
 have := ξ6C (md := .any) hs hQ t 0 (Array.replicate ops.size false) a w.drew hB (by simp) (fun j => by
  rw [Nat.zero_testBit]
  by_cases hj : j < ops.size <;> simp [Array.getElem?_replicate, hj]) (fun j o _ hl => by simp [Array.getElem?_replicate] at hl; split at hl <;> simp at hl) hF h
 rw [hn] at this
 exact this
end region
section steps
variable {P : Program} {ops : Array Oper} {Q : Exit → Act → World → Prop} {i : Nat} {t : Tr} {a : Act} {w : World} {B : World → Prop} {o : Oper}
theorem ξ0p (h : Q .normal a w) : wpL P ops Q B .stop a w := h
theorem ξP (ho : ops[i]? = some o) (hw : Region.wanted o (yielded ops a.tmps) = true) {v : Value} (hv : ∀ w', B w' → (execOp a.eval o).run P w' = .ok (.value v) w')
  (h : ∀ K : Act → World → Prop, (∀ a w, wpL P ops Q B t a w → K a w) → K (a.put o.dst v) w) : wpL P ops Q B (.read i t) a w :=
 ⟨o, ho, by rw [if_pos hw]; exact ⟨v, hv, h _ (fun _ _ h => h)⟩⟩
theorem ξ14 (ho : ops[i]? = some o) (hw : Region.wanted o (yielded ops a.tmps) = true)
  (h : ∀ K : Act → World → Prop, (∀ a w, wpL P ops Q B t a w → K a w) → Oper.wp P o a w (fun a' w' => B w' ∧ K a' w') Q) : wpL P ops Q B (.one i t) a w :=
 ⟨o, ho, by rw [if_pos hw]; exact h _ (fun _ _ h => h)⟩
theorem ξ8k {j : Nat} {u : Tr} (h1 : wpL P ops Q B (.one i t) a w) (h2 : wpL P ops Q B (.one j u) a w) : wpL P ops Q B (.two i t j u) a w := ⟨h1, h2⟩
theorem ξ3m {v : Value} {w' : World} (ho : ops[i]? = some o) (hw : Region.wanted o (yielded ops a.tmps) = true) (hx : (execOp a.eval o).run P w = .ok (.value v) w') (hg : B w')
  (h : ∀ K : Act → World → Prop, (∀ a w, wpL P ops Q B t a w → K a w) → K (a.put o.dst v) w') : wpL P ops Q B (.one i t) a w := by
 refine ξ14 ho hw fun K hK => ?_
 unfold Oper.wp
 rw [hx]
 exact ⟨hg, h K hK⟩
theorem ξ7U {c : Call} {x : Operand} {f : FuncId} {first caps args : Array Value}
  (ho : ops[i]? = some o) (hw : Region.wanted o (yielded ops a.tmps) = true) (hop : o.op = .call c) (hc : c.callee = .value x) (hx : a.eval x = .func (.func f) first caps)
  (he : ∀ args w, (callFunc f args).run P w = .ok (.enter f args) w) (hargs : (first ++ c.args.map a.eval) ++ caps = args)
  (h : ∀ K : Act → World → Prop, (∀ a w, wpL P ops Q B t a w → K a w) → Calls P f args w fun e w' => ∃ v, e = .returned v ∧ B w' ∧ K (a.put o.dst v) w') : wpL P ops Q B (.one i t) a w := by
 refine ξ14 ho hw fun K hK => ?_
 unfold Oper.wp
 rw [ξao hop hc hx he, hargs]
 simp only [Oper.upon]
 refine (h K hK).mono ?_
 rintro e w' ⟨v, rfl, hb, hk⟩
 exact ⟨hb, hk⟩
theorem ξ3i {c : Call} {x : Operand} {f : FuncId} {first caps args : Array Value} {fn : Func}
  (ho : ops[i]? = some o) (hw : Region.wanted o (yielded ops a.tmps) = true) (hop : o.op = .call c) (hc : c.callee = .value x) (hx : a.eval x = .func (.func f) first caps)
  (hf : P.funcs[f]? = some fn) (hn : (fn.name == "runtime.NumGoroutine") = false) (hb : fn.body.isNone = false) (hargs : (first ++ c.args.map a.eval) ++ caps = args)
  (h : ∀ K : Act → World → Prop, (∀ a w, wpL P ops Q B t a w → K a w) → Calls P f args w fun e w' => ∃ v, e = .returned v ∧ B w' ∧ K (a.put o.dst v) w') : wpL P ops Q B (.one i t) a w := by
 refine ξ14 ho hw fun K hK => ?_
 unfold Oper.wp
 rw [ξ43 hop hc hx hf hn hb, hargs]
 simp only [Oper.upon]
 refine (h K hK).mono ?_
 rintro e w' ⟨v, rfl, hb, hk⟩
 exact ⟨hb, hk⟩
end steps
end Go.Proofs.YtcjgimlcefhhmaaGreatDoor.Inv
namespace Go.Proofs.YtcjgimlcefhhmaaGreatDoor.LateN
open Go.RowKit
open Go.Proofs.YtcjgimlcefhhmaaGreatDoor.LateL (freeJ ξ0x)
open Go.Proofs.YtcjgimlcefhhmaaGreatDoor.Inv (bOp wpAnyB ξ1b ξY)
structure NewS where
 T : TypeId
 Z : Array Value
 v : Nat → Value
section
variable {P : Program} {ops : Array Oper} {md : Region.Mode} {Q : Exit → Act → World → Prop} {B : World → Prop} {nw : Nat → NewS}
def earlyN (ops : Array Oper) (i : Nat) (oi : Oper) : List (Nat × Nat) → Bool
 | [] => false
 | (j, k) :: rest => if j = i ∧ k = 2 then true else (match ops[j]? with | some oj => oi.apart ops oj | none => false) && earlyN ops i oi rest
theorem ξ2f {i : Nat} {oi : Oper} : ∀ (l : List (Nat × Nat)), earlyN ops i oi l = true → (eraseF i l).length + 1 = l.length
 | [], h => by simp [earlyN] at h
 | (j, k) :: rest, h => by
  unfold earlyN at h
  unfold eraseF
  split
  ·rfl
  ·rename_i hn
   rw [if_neg hn] at h
   simp only [Bool.and_eq_true] at h
   simp [ξ2f rest h.2]
theorem ξ1J {i : Nat} {oi : Oper} : ∀ (l : List (Nat × Nat)), earlyN ops i oi l = true → hasAlloc l = true
 | [], h => by simp [earlyN] at h
 | (j, k) :: rest, h => by
  unfold earlyN at h
  by_cases hh : j = i ∧ k = 2
  ·obtain ⟨rfl, rfl⟩ := hh; simp [hasAlloc]
  ·rw [if_neg hh] at h
   simp only [Bool.and_eq_true] at h
   simp [hasAlloc, ξ1J rest h.2]
def ξ0w (P : Program) (ops : Array Oper) (nw : Nat → NewS) (i : Nat) (a : Act) : Prop := ∃ o, ops[i]? = some o ∧ o.guard = none ∧ ∀ w', (execOp a.eval o).run P w' = .ok (.value ((nw i).v w'.heap.size)) (w'.alloc (.cells (nw i).Z (nw i).T))
def keepsN (ops : Array Oper) (oj : Oper) (l : List (Nat × Nat)) : Bool := l.all fun x => x.2 != 2 || (match ops[x.1]? with | some oi => oi.apart ops oj | none => false)
theorem ξ20 {oj : Oper} {l : List (Nat × Nat)} (h : keepsN ops oj l = true) {i : Nat} {oi : Oper} (hi : ops[i]? = some oi) (hm : (i, 2) ∈ l) : oi.apart ops oj = true := by
 unfold keepsN at h
 have := List.all_eq_true.1 h _ hm
 simpa [hi] using this
def okN (md : Region.Mode) (ops : Array Oper) : Nat → List (Nat × Nat) → Array Bool → Bool
 | 0, _, _ => false
 | _ + 1, [], listed => (Region.ready md ops listed).isEmpty
 | f + 1, (i, k) :: rest, listed => (Region.ready md ops listed).contains i && (match ops[i]? with | some oi => keepsN ops oi rest | none => false) &&
     if k = 1 then freeJ md ops listed i && okN md ops f rest (listed.setIfInBounds i true)
     else okN md ops f rest (listed.setIfInBounds i true) &&
    (Region.ready md ops listed).all fun j => j == i || ((match ops[j]? with | some oj => earlyN ops j oj ((i, k) :: rest) && keepsN ops oj (eraseF j ((i, k) :: rest)) | none => false) && okN md ops f (eraseF j ((i, k) :: rest)) (listed.setIfInBounds j true))
def wpN (P : Program) (ops : Array Oper) (Q : Exit → Act → World → Prop) (B : World → Prop) (nw : Nat → NewS) : List (Nat × Nat) → (Nat → Prop) → Act → World → Prop
 | [], _, a, w => Q .normal a w
 | (i, k) :: rest, U, a, w => ∃ o, ops[i]? = some o ∧
   if k = 2 then ∀ w1 b, Gr w w1 → ξo (nw i).Z (nw i).T b w1 → ¬ U b → wpN P ops Q B nw rest (fun x => U x ∨ x = b) (a.put o.dst ((nw i).v b)) w1
   else if Region.wanted o (yielded ops a.tmps) = true then
    (if k = 1 then ∃ v, (∀ w', B w' → (execOp a.eval o).run P w' = .ok (.value v) w') ∧ wpN P ops Q B nw rest U (a.put o.dst v) w
     else ∀ w1, Gr w w1 → Oper.wp P o a w1 (fun a' w' => (hasAlloc rest = true → Gr w1 w') ∧ B w' ∧ wpN P ops Q B nw rest (fun x => U x ∨ (w1.heap.size ≤ x ∧ x < w'.heap.size)) a' w') Q)
   else wpN P ops Q B nw rest U (a.put o.dst undef) w
theorem ξ07 : ∀ (l : List (Nat × Nat)) (U U' : Nat → Prop) (a : Act) (w : World), (∀ x, U x → U' x) → wpN P ops Q B nw l U a w → wpN P ops Q B nw l U' a w
 | [], _, _, _, _, _, h => h
 | (i, k) :: rest, U, U', a, w, hU, ⟨o, ho, h⟩ => by
  refine ⟨o, ho, ?_⟩
  by_cases hk : k = 2
  ·rw [if_pos hk] at h ⊢
   exact fun w1 b g f n => ξ07 rest _ _ _ _ (fun x hx => hx.imp (hU x) id) (h w1 b g f (fun hb => n (hU b hb)))
  ·rw [if_neg hk] at h ⊢
   by_cases hw : Region.wanted o (yielded ops a.tmps) = true
   ·rw [if_pos hw] at h ⊢
    by_cases hk1 : k = 1
    ·rw [if_pos hk1] at h ⊢
     obtain ⟨v, hv, h⟩ := h
     exact ⟨v, hv, ξ07 rest _ _ _ _ hU h⟩
    ·rw [if_neg hk1] at h ⊢
     exact fun w1 g => Oper.wp_mono (fun a' w' hk => ⟨hk.1, hk.2.1, ξ07 rest _ _ _ _ (fun x hx => hx.imp (hU x) id) hk.2.2⟩) (h w1 g)
   ·rw [if_neg hw] at h ⊢
    exact ξ07 rest _ _ _ _ hU h
theorem ξ1k : ∀ (l : List (Nat × Nat)) (U : Nat → Prop) (a : Act) (w w' : World), hasAlloc l = true → Gr w w' → wpN P ops Q B nw l U a w → wpN P ops Q B nw l U a w'
 | [], _, _, _, _, h, _, _ => by simp [hasAlloc] at h
 | (i, k) :: rest, U, a, w, w', hl, g, ⟨o, ho, h⟩ => by
  refine ⟨o, ho, ?_⟩
  by_cases hk : k = 2
  ·rw [if_pos hk] at h ⊢
   exact fun w1 b g1 f n => h w1 b (g.trans g1) f n
  ·have hl' : hasAlloc rest = true := by simpa [hasAlloc, hk] using hl
   rw [if_neg hk] at h ⊢
   by_cases hw : Region.wanted o (yielded ops a.tmps) = true
   ·rw [if_pos hw] at h ⊢
    by_cases hk1 : k = 1
    ·rw [if_pos hk1] at h ⊢
     obtain ⟨v, hv, h⟩ := h
     exact ⟨v, hv, ξ1k rest U _ _ _ hl' g h⟩
    ·rw [if_neg hk1] at h ⊢
     exact fun w1 g1 => h w1 (g.trans g1)
   ·rw [if_neg hw] at h ⊢
    exact ξ1k rest U _ _ _ hl' g h
theorem ξ0w.keep {i : Nat} {oj : Oper} {a : Act} (hsel : ∀ (j : Nat) (o : Oper) cs b, ops[j]? = some o → o.op ≠ .select cs b) (h : ξ0w P ops nw i a) (hap : ∀ oi, ops[i]? = some oi → oi.apart ops oj = true) (u : Value) : ξ0w P ops nw i (a.put oj.dst u) := by
 obtain ⟨o, ho, hg, hr⟩ := h
 obtain ⟨h1, h2, h3⟩ := Oper.apart_spec (hap o ho)
 exact ⟨o, ho, hg, fun w' => by rw [execOp_put o (fun cs b => hsel i o cs b ho) a oj.dst u h3]; exact hr w'⟩
theorem ξ7f {oj : Oper} {Y : Act → Prop} {K : Act → World → Prop} {a : Act} {w : World} (hY : ∀ a u, Y a → Y (a.put oj.dst u)) (hD : ∀ a d, Y a → Y { a with defers := d :: a.defers }) (ha : Y a) (h : Oper.wp P oj a w K Q) : Oper.wp P oj a w (fun a' w' => Y a' ∧ K a' w') Q := by
 unfold Oper.wp at *
 generalize (execOp a.eval oj).run P w = r at *
 cases r with
 | ok n w' =>
  cases n <;> simp only [Oper.upon] at h ⊢
  case value u => exact ⟨hY _ _ ha, h⟩
  case skip => exact ⟨hY _ _ ha, h⟩
  case defer d => exact ⟨hY _ _ (hD _ _ ha), h⟩
  case enter f args =>
   refine Calls.mono h fun e w'' he => ?_
   cases e with
   | returned u => exact ⟨hY _ _ ha, he⟩
   | panicked c => exact he
   | outgrown => exact he
  case row row args => exact Rows.mono h fun u w'' he => ⟨hY _ _ ha, he⟩
 | halt x w' =>
  cases x <;> simp only [Oper.upon] at h ⊢
  case panic u => exact h
theorem ξ3E {oi oj : Oper} {v : Value} (hap : oi.apart ops oj = true) (hsj : ∀ cs b, oj.op ≠ .select cs b)
  (hQ : ∀ c a d v w, Q (.panic c) a w → Q (.panic c) (a.put d v) w) {K K' : Act → World → Prop} {a : Act} {w : World}
  (hK : ∀ a' w', K a' w' → K' (a'.put oi.dst v) w')
  (h : Oper.wp P oj a w K Q) : Oper.wp P oj (a.put oi.dst v) w K' Q := by
 obtain ⟨h1, h2, h3⟩ := Oper.apart_spec hap
 unfold Oper.wp at *
 rw [execOp_put oj hsj a oi.dst v h1]
 generalize (execOp a.eval oj).run P w = r at *
 cases r with
 | ok n w' =>
  cases n <;> simp only [Oper.upon] at h ⊢
  case value u => rw [Act.put_comm a v u h2]; exact hK _ _ h
  case skip => rw [Act.put_comm a v undef h2]; exact hK _ _ h
  case defer d =>
   rw [Act.put_defers, Act.put_comm _ v undef h2]
   exact hK _ _ h
  case enter f args =>
   refine Calls.mono h fun e w'' he => ?_
   cases e with
   | returned u => exact (show K' ((a.put oi.dst v).put oj.dst u) w'' from by rw [Act.put_comm a v u h2]; exact hK _ _ he)
   | panicked c => exact hQ _ _ _ _ _ he
   | outgrown => exact he
  case row row args => exact Rows.mono h fun u w'' he => by rw [Act.put_comm a v u h2]; exact hK _ _ he
 | halt x w' =>
  cases x <;> simp only [Oper.upon] at h ⊢
  case panic u => exact hQ _ _ _ _ _ h
theorem ξ0d {i : Nat} {oi : Oper} {b : Nat} (hi : ops[i]? = some oi) (hsel : ∀ (j : Nat) (o : Oper) cs b, ops[j]? = some o → o.op ≠ .select cs b)
  (hQ : ∀ c a d v w, Q (.panic c) a w → Q (.panic c) (a.put d v) w) :
  ∀ (l : List (Nat × Nat)) (U : Nat → Prop) (a : Act) (w : World), earlyN ops i oi l = true → ξo (nw i).Z (nw i).T b w → ¬ U b → wpN P ops Q B nw l U a w → wpN P ops Q B nw (eraseF i l) (fun x => U x ∨ x = b) (a.put oi.dst ((nw i).v b)) w
 | [], _, _, _, h, _, _, _ => by simp [earlyN] at h
 | (j, k) :: rest, U, a, w, hok, hf, hU, ⟨o, ho, h⟩ => by
  unfold earlyN at hok
  unfold eraseF
  by_cases hh : j = i ∧ k = 2
  ·obtain ⟨rfl, rfl⟩ := hh
   rw [if_pos ⟨rfl, rfl⟩]
   rw [hi] at ho
   cases ho
   rw [if_pos rfl] at h
   exact h w b (Gr.refl w) hf hU
  ·rw [if_neg hh] at hok ⊢
   simp only [ho, Bool.and_eq_true] at hok
   obtain ⟨hap, hok⟩ := hok
   obtain ⟨h1, h2, h3⟩ := Oper.apart_spec hap
   refine ⟨o, ho, ?_⟩
   by_cases hk : k = 2
   ·rw [if_pos hk] at h ⊢
    intro w1 b1 g1 f1 n1
    have := ξ0d hi hsel hQ rest _ _ _ hok (hf.grow g1) (fun hb => hb.elim hU (fun e => n1 (.inr e.symm))) (h w1 b1 g1 f1 (fun hb => n1 (.inl hb)))
    rw [Act.put_comm a ((nw i).v b) ((nw j).v b1) h2]
    exact ξ07 _ _ _ _ _ (fun x hx => by rcases hx with (hx | hx) | hx; exact .inl (.inl hx); exact .inr hx; exact .inl (.inr hx)) this
   ·rw [if_neg hk] at h ⊢
    rw [wanted_put o a oi.dst ((nw i).v b) h1]
    by_cases hw : Region.wanted o (yielded ops a.tmps) = true
    ·rw [if_pos hw] at h ⊢
     by_cases hk1 : k = 1
     ·rw [if_pos hk1] at h ⊢
      obtain ⟨v, hv, h⟩ := h
      refine ⟨v, fun w' g => by rw [execOp_put o (fun cs b => hsel j o cs b ho) a oi.dst _ h1]; exact hv w' g, ?_⟩
      rw [Act.put_comm a ((nw i).v b) v h2]
      exact ξ0d hi hsel hQ rest _ _ _ hok hf hU h
     ·rw [if_neg hk1] at h ⊢
      intro w1 g1
      refine ξ3E hap (fun cs b => hsel j o cs b ho) hQ (fun a' w' hk => ?_) (h w1 g1)
      obtain ⟨k1, k2, k3⟩ := hk
      have gr := k1 (ξ1J rest hok)
      exact ⟨fun _ => gr, k2, ξ07 _ _ _ _ _ (fun x hx => by rcases hx with (hx | hx) | hx; exact .inl (.inl hx); exact .inr hx; exact .inl (.inr hx)) (ξ0d hi hsel hQ rest _ _ _ hok ((hf.grow g1).grow gr) (fun hx => hx.elim hU (fun hx => by have hb : b < w1.heap.size := Nat.lt_of_lt_of_le hf.lt g1.size; omega)) k3)⟩
    ·rw [if_neg hw] at h ⊢
     rw [Act.put_comm a ((nw i).v b) undef h2]
     exact ξ0d hi hsel hQ rest _ _ _ hok hf hU h
theorem ξ3u {i : Nat} {oi : Oper} : ∀ (l : List (Nat × Nat)), earlyN ops i oi l = true → (i, 2) ∈ l
 | [], h => by simp [earlyN] at h
 | (j, k) :: rest, h => by
  unfold earlyN at h
  by_cases hh : j = i ∧ k = 2
  ·obtain ⟨rfl, rfl⟩ := hh; exact List.mem_cons_self
  ·rw [if_neg hh] at h
   simp only [Bool.and_eq_true] at h
   exact List.mem_cons_of_mem _ (ξ3u rest h.2)
theorem ξ3M (hBg : ∀ w w', B w → Gr w w' → B w') (hs : Region.noSelect ops = true) (hQ : ∀ c a d v w, Q (.panic c) (a.put d v) w → Q (.panic c) a w) (hQ' : ∀ c a d v w, Q (.panic c) a w → Q (.panic c) (a.put d v) w) :
  ∀ (n : Nat) (l : List (Nat × Nat)), l.length = n → ∀ (f : Nat) (listed : Array Bool) (U : Nat → Prop) (a : Act) (w : World), B w → ξB md ops listed → okN md ops f l listed = true →
   (∀ i, (i, 2) ∈ l → ξ0w P ops nw i a) → (hasAlloc l = true → ∀ b, U b → b < w.heap.size) → wpN P ops Q B nw l U a w → wpAnyB P md ops Q B n listed a w := by
 intro n
 induction n with
 | zero =>
  intro l hl f listed U a w hB hc hok hA hU h
  have : l = [] := List.eq_nil_of_length_eq_zero hl
  subst this
  cases f with
  | zero => simp [okN] at hok
  | succ f => exact ⟨by simpa [okN] using hok, h⟩
 | succ n ih =>
  intro l hl f listed U a w hB hc hok hA hU h
  match l, hl with
  | (i, k) :: rest, hl =>
  have hl' : rest.length = n := by simpa using hl
  cases f with
  | zero => simp [okN] at hok
  | succ f =>
  have h0 := h
  obtain ⟨o, ho, h⟩ := h
  unfold okN at hok
  simp only [Bool.and_eq_true, ho] at hok
  obtain ⟨⟨hr, hkeep⟩, hok⟩ := hok
  have hr' : i ∈ Region.ready md ops listed := by simpa using hr
  have hput : ∀ a u, (∀ i, (i, 2) ∈ rest → ξ0w P ops nw i a) → ∀ i, (i, 2) ∈ rest → ξ0w P ops nw i (a.put o.dst u) := fun a u hA i' hi' =>
   (hA i' hi').keep (Region.noSelect_spec hs) (fun oi hoi => ξ20 hkeep hoi hi') u
  have hA' : ∀ i, (i, 2) ∈ rest → ξ0w P ops nw i a := fun i hi => hA i (List.mem_cons_of_mem _ hi)
  by_cases hk1 : k = 1
  ·subst hk1
   have hU' : hasAlloc rest = true → ∀ b, U b → b < w.heap.size := fun hh => hU (by simp [hasAlloc, hh])
   rw [if_pos rfl, Bool.and_eq_true] at hok
   rw [if_neg (by omega)] at h
   by_cases hw : Region.wanted o (yielded ops a.tmps) = true
   ·rw [if_pos hw, if_pos rfl] at h
    obtain ⟨v, hv, h⟩ := h
    exact ξY ho (Region.noSelect_spec hs) hQ n listed a w hB hc (ξ0x ho hok.1) hr' (.inl ⟨hw, hv⟩) (ih rest hl' f _ U _ w hB (hc.set hr') hok.2 (hput _ _ hA') hU' h)
   ·rw [if_neg hw] at h
    exact ξY ho (Region.noSelect_spec hs) hQ n listed a w hB hc (ξ0x ho hok.1) hr' (.inr ⟨by simpa using hw, rfl⟩) (ih rest hl' f _ U _ w hB (hc.set hr') hok.2 (hput _ _ hA') hU' h)
  ·rw [if_neg hk1] at hok
   simp only [Bool.and_eq_true, List.all_eq_true] at hok
   obtain ⟨hok, hall⟩ := hok
   refine ⟨fun hn => (by rw [hn] at hr'; cases hr'), fun j hj => ?_⟩
   by_cases hji : j = i
   ·subst hji
    unfold bOp wpOp
    simp only [ho]
    by_cases hk : k = 2
    ·subst hk
     rw [if_pos rfl] at h
     obtain ⟨o', ho', hg, hrun⟩ := hA j List.mem_cons_self
     rw [ho] at ho'; cases ho'
     rw [if_pos (by simp [Region.wanted, hg])]
     refine .inl ?_
     unfold Oper.wp
     rw [hrun w]
     simp only [Oper.upon]
     have g1 : Gr w (w.alloc (.cells (nw j).Z (nw j).T)) := (Gr.refl w).alloc _
     refine ⟨hBg _ _ hB g1, ih rest hl' f _ _ _ _ (hBg _ _ hB g1) (hc.set hr') hok (hput _ _ hA') (fun hh b hb => ?_) (h _ _ g1 (ξo.new _ _ w) (fun hb => ?_))⟩
     ·rw [World.size_alloc]
      rcases hb with hb | hb
      ·have := hU (by simp [hasAlloc]) b hb; omega
      ·omega
     ·have := hU (by simp [hasAlloc]) _ hb; omega
    ·rw [if_neg hk] at h
     by_cases hw : Region.wanted o (yielded ops a.tmps) = true
     ·rw [if_pos hw, if_neg hk1] at h
      rw [if_pos hw]
      refine .inl (Oper.wp_mono (fun a' w' hkk => ⟨hkk.2.2.1, ?_⟩) (ξ7f (Y := fun a => ∀ i, (i, 2) ∈ rest → ξ0w P ops nw i a) hput (fun a d h => h) hA' (h w (Gr.refl w))))
      refine ih rest hl' f _ _ a' w' hkk.2.2.1 (hc.set hr') hok hkk.1 (fun hh b hb => ?_) hkk.2.2.2
      have gr := hkk.2.1 hh
      rcases hb with hb | hb
      ·exact Nat.lt_of_lt_of_le (hU (by simp [hasAlloc, hh]) b hb) gr.size
      ·exact hb.2
     ·rw [if_neg hw] at h
      rw [if_neg hw]
      exact ⟨hB, ih rest hl' f _ U _ w hB (hc.set hr') hok (hput _ _ hA') (fun hh => hU (by simp [hasAlloc, hh])) h⟩
   ·have hj2 := hall j hj
    simp only [Bool.or_eq_true, beq_iff_eq, hji, false_or, Bool.and_eq_true] at hj2
    obtain ⟨he, hokj⟩ := hj2
    cases hoj : ops[j]? with
    | none => simp [hoj] at he
    | some oj =>
     simp only [hoj, Bool.and_eq_true] at he
     obtain ⟨he, hkj⟩ := he
     have hhas := ξ1J _ he
     obtain ⟨o', ho', hg, hrun⟩ := hA j (ξ3u _ he)
     rw [hoj] at ho'; cases ho'
     unfold bOp wpOp
     simp only [hoj]
     rw [if_pos (by simp [Region.wanted, hg])]
     refine .inl ?_
     unfold Oper.wp
     rw [hrun w]
     simp only [Oper.upon]
     have g1 : Gr w (w.alloc (.cells (nw j).Z (nw j).T)) := (Gr.refl w).alloc _
     have hnU : ¬ U w.heap.size := fun hb => by have := hU hhas _ hb; omega
     have hE := ξ0d hoj (Region.noSelect_spec hs) hQ' _ U a _ he (ξo.new _ _ w) hnU (ξ1k _ U a w _ hhas g1 h0)
     have hlen := ξ2f _ he
     refine ⟨hBg _ _ hB g1, ih (eraseF j ((i, k) :: rest)) (by simp at hlen hl ⊢; omega) f _ _ _ _ (hBg _ _ hB g1) (hc.set hj) hokj (fun i' hi' => ?_) (fun _ b hb => ?_) hE⟩
     ·exact (hA i' (ξ2j _ _ hi')).keep (Region.noSelect_spec hs) (fun oi hoi => ξ20 hkj hoi hi') _
     ·rw [World.size_alloc]
      rcases hb with hb | hb
      ·have := hU hhas b hb; omega
      ·omega
def wpR (P : Program) (ops : Array Oper) (B : World → Prop) (K : Act → Prop) : List Nat → Act → Prop
 | [], a => K a
 | i :: rest, a => ∃ o, ops[i]? = some o ∧ Region.wanted o (yielded ops a.tmps) = true ∧ ∃ v, (∀ w', B w' → (execOp a.eval o).run P w' = .ok (.value v) w') ∧ wpR P ops B K rest (a.put o.dst v)
def okR (md : Region.Mode) (ops : Array Oper) (f : Nat) (l : List (Nat × Nat)) : List Nat → Array Bool → Bool
 | [], listed => okN md ops f l listed
 | i :: rest, listed => (Region.ready md ops listed).contains i && freeJ md ops listed i && okR md ops f l rest (listed.setIfInBounds i true)
theorem ξ2H (hBg : ∀ w w', B w → Gr w w' → B w') (hs : Region.noSelect ops = true) (hQ : ∀ c a d v w, Q (.panic c) (a.put d v) w → Q (.panic c) a w) (hQ' : ∀ c a d v w, Q (.panic c) a w → Q (.panic c) (a.put d v) w)
  (f : Nat) (l : List (Nat × Nat)) (U : Nat → Prop) (w : World) (hB : B w) (hU : ∀ b, U b → b < w.heap.size) :
  ∀ (rs : List Nat) (listed : Array Bool) (a : Act), ξB md ops listed → okR md ops f l rs listed = true → wpR P ops B (fun a => (∀ i, (i, 2) ∈ l → ξ0w P ops nw i a) ∧ wpN P ops Q B nw l U a w) rs a → wpAnyB P md ops Q B (l.length + rs.length) listed a w
 | [], listed, a, hc, hok, h => ξ3M hBg hs hQ hQ' _ l rfl f listed U a w hB hc hok h.1 (fun _ => hU) h.2
 | i :: rest, listed, a, hc, hok, h => by
  obtain ⟨o, ho, hw, v, hv, h⟩ := h
  unfold okR at hok
  simp only [Bool.and_eq_true] at hok
  obtain ⟨⟨hr, hf⟩, hok⟩ := hok
  have hr' : i ∈ Region.ready md ops listed := by simpa using hr
  exact ξY ho (Region.noSelect_spec hs) hQ _ listed a w hB hc (ξ0x ho hf) hr' (.inl ⟨hw, hv⟩) (ξ2H hBg hs hQ hQ' f l U w hB hU rest _ _ (hc.set hr') hok h)
theorem ξ0y {id : Nat} {a : Act} {w : World} (B : World → Prop) (hB0 : B w.drew) (hBg : ∀ w w', B w → Gr w w' → B w') (nw : Nat → NewS) (f : Nat) (reads : List Nat) (order : List (Nat × Nat)) (hm : P.follows .mixedOrders = true) (hs : Region.noSelect ops = true)
  (hn : order.length + reads.length = ops.size) (hB : okR .any ops f order reads (Array.replicate ops.size false) = true) (hQ : ∀ c a d v w, Q (.panic c) (a.put d v) w → Q (.panic c) a w) (hQ' : ∀ c a d v w, Q (.panic c) a w → Q (.panic c) (a.put d v) w)
  (h : wpR P ops B (fun a => (∀ i, (i, 2) ∈ order → ξ0w P ops nw i a) ∧ wpN P ops Q B nw order (fun b => b < w.heap.size) a w.drew) reads a) : (Code.region id ops true).wp P Q a w := by
 refine wp_region_any hm (ξ1b (B := B) _ _ _ _ ?_)
 have := ξ2H (md := .any) (nw := nw) hBg hs hQ hQ' f order (fun b => b < w.heap.size) w.drew hB0 (fun _ hb => hb) reads (Array.replicate ops.size false) a
  (fun j o _ hl => by simp [Array.getElem?_replicate] at hl; split at hl <;> simp at hl) hB h
 rw [hn] at this
 exact this
end
section steps
variable {P : Program} {ops : Array Oper} {Q : Exit → Act → World → Prop} {B : World → Prop} {nw : Nat → NewS} {U : Nat → Prop} {i : Nat} {rest : List (Nat × Nat)} {reads : List Nat} {a : Act} {w : World} {o : Oper} {KR : Act → Prop}
theorem ξ3j (h : Q .normal a w) : wpN P ops Q B nw [] U a w := h
theorem ξ3g (h : KR a) : wpR P ops B KR [] a := h
theorem ξ2O (ho : ops[i]? = some o) (hw : Region.wanted o (yielded ops a.tmps) = true) {v : Value} (hv : ∀ w', B w' → (execOp a.eval o).run P w' = .ok (.value v) w')
  (h : ∀ K : Act → Prop, (∀ a, wpR P ops B KR reads a → K a) → K (a.put o.dst v)) : wpR P ops B KR (i :: reads) a :=
 ⟨o, ho, hw, v, hv, h _ (fun _ h => h)⟩
theorem ξ15 (ho : ops[i]? = some o) (hw : Region.wanted o (yielded ops a.tmps) = true) {v : Value} (hv : ∀ w', B w' → (execOp a.eval o).run P w' = .ok (.value v) w')
  (h : ∀ K : Act → World → Prop, (∀ a w, wpN P ops Q B nw rest U a w → K a w) → K (a.put o.dst v) w) : wpN P ops Q B nw ((i, 1) :: rest) U a w :=
 ⟨o, ho, by rw [if_neg (by omega), if_pos hw, if_pos rfl]; exact ⟨v, hv, h _ (fun _ _ h => h)⟩⟩
theorem ξ0K (ho : ops[i]? = some o) (hw : Region.wanted o (yielded ops a.tmps) = true)
  (h : ∀ K : World → Act → World → Prop, (∀ w1 a w', wpN P ops Q B nw rest (fun x => U x ∨ (w1.heap.size ≤ x ∧ x < w'.heap.size)) a w' → K w1 a w') → ∀ w1, Gr w w1 → Oper.wp P o a w1 (fun a' w' => (hasAlloc rest = true → Gr w1 w') ∧ B w' ∧ K w1 a' w') Q) : wpN P ops Q B nw ((i, 0) :: rest) U a w :=
 ⟨o, ho, by rw [if_neg (by omega), if_pos hw, if_neg (by omega)]; exact h (fun w1 a w' => wpN P ops Q B nw rest (fun x => U x ∨ (w1.heap.size ≤ x ∧ x < w'.heap.size)) a w') (fun _ _ _ h => h)⟩
theorem ξ0I (ho : ops[i]? = some o)
  (h : ∀ K : Act → World → Prop, ∀ w1 b, Gr w w1 → ξo (nw i).Z (nw i).T b w1 → ¬ U b → (∀ a w, wpN P ops Q B nw rest (fun x => U x ∨ x = b) a w → K a w) → K (a.put o.dst ((nw i).v b)) w1) : wpN P ops Q B nw ((i, 2) :: rest) U a w :=
 ⟨o, ho, by rw [if_pos rfl]; intro w1 b g f n; exact h _ w1 b g f n (fun _ _ h => h)⟩
end steps
end Go.Proofs.YtcjgimlcefhhmaaGreatDoor.LateN
namespace Go.Proofs.YtcjgimlcefhhmaaGreatDoor.Stip
open Go.RowKit
section region
variable {P : Program} {ops : Array Oper} {md : Region.Mode} {Q : Exit → Act → World → Prop}
def isStore (o : Oper) : Bool := match o.op with
 | .store .. | .insert .. | .mapUpdate .. | .entryStore .. => true
 | .call c => match c.argTypes[0]? with | some t => Nat.beq t 40 | none => false
 | _ => false
def relOf (o : Oper) (w w' : World) : Prop := isStore o = false → Gr w w'
theorem relOf.refl (o : Oper) (w : World) : relOf o w w := fun _ => Gr.refl w
def gOp (P : Program) (ops : Array Oper) (Q : Exit → Act → World → Prop) (i : Nat) (K : Act → World → Prop) (a : Act) (w : World) : Prop :=
 wpOp P ops Q i (fun a' w' => (∀ o, ops[i]? = some o → relOf o w w') ∧ K a' w') a w
def wpAnyG (P : Program) (md : Region.Mode) (ops : Array Oper) (Q : Exit → Act → World → Prop) : Nat → Array Bool → Act → World → Prop
 | 0, listed, a, w => Region.ready md ops listed = [] ∧ Q .normal a w
 | fuel + 1, listed, a, w =>
  (Region.ready md ops listed = [] → Q .normal a w) ∧
  ∀ i ∈ Region.ready md ops listed, gOp P ops Q i (wpAnyG P md ops Q fuel (listed.setIfInBounds i true)) a w
theorem ξ0u : ∀ (fuel : Nat) (listed : Array Bool) (a : Act) (w : World), wpAnyG P md ops Q fuel listed a w → wpAny P md ops Q fuel listed a w
 | 0, _, _, _, h => h
 | fuel + 1, _, _, _, h => ⟨h.1, fun i hi => wpOp_mono (fun a' w' hk => ξ0u fuel _ a' w' hk.2) (h.2 i hi)⟩
def pureOp (o : Oper) : Bool := match o.op with
 | .extract (.tmp _) _ => true
 | _ => false
theorem pureOp.any {P : Program} {ρ : Operand → Value} {o : Oper} (h : pureOp o = true) {v : Value} {w : World} (hv : (execOp ρ o).run P w = .ok (.value v) w) (w' : World) : (execOp ρ o).run P w' = .ok (.value v) w' := by
 unfold pureOp at h
 split at h
 ·rename_i t i he
  unfold execOp at hv ⊢
  simp only [he] at hv ⊢
  unfold Instr.extract at hv ⊢
  split at hv <;> simp_all [go_sem]
  split at hv <;> simp_all [go_sem]
 ·cases h
def ξk (P : Program) (ops : Array Oper) (o : Oper) (v : Value) (a : Act) (w : World) : Prop :=
 (Region.wanted o (yielded ops a.tmps) = true ∧ ∀ w', Gr w w' ∨ pureOp o = true → (execOp a.eval o).run P w' = .ok (.value v) w') ∨
 (Region.wanted o (yielded ops a.tmps) = false ∧ v = undef)
theorem ξk.mk {o : Oper} {v : Value} {a : Act} {w : World} (hw : Region.wanted o (yielded ops a.tmps) = true) (hv : ∀ w', Gr w w' → (execOp a.eval o).run P w' = .ok (.value v) w') : ξk P ops o v a w :=
 .inl ⟨hw, fun w' h => h.elim (hv w') fun h => pureOp.any h (hv w (Gr.refl w)) w'⟩
theorem ξk.grow {o : Oper} {v : Value} {a : Act} {w w' : World} (hy : ξk P ops o v a w) (hg : Gr w w' ∨ pureOp o = true) : ξk P ops o v a w' := by
 rcases hy with ⟨h1, h2⟩ | h
 ·exact .inl ⟨h1, fun w'' h' => h2 w'' (h'.elim (fun h' => hg.imp (fun g => g.trans h') id) .inr)⟩
 ·exact .inr h
theorem ξk.of_same {o : Oper} {v : Value} {a a' : Act} {w : World} (hy : ξk P ops o v a w) (he : execOp a'.eval o = execOp a.eval o)
  (hw : Region.wanted o (yielded ops a'.tmps) = Region.wanted o (yielded ops a.tmps)) : ξk P ops o v a' w := by
 unfold ξk at *
 rw [he, hw]
 exact hy
theorem ξk.gOp {i : Nat} {o : Oper} {v : Value} {a : Act} {w : World} (hi : ops[i]? = some o) (hy : ξk P ops o v a w)
  {K : Act → World → Prop} (h : K (a.put o.dst v) w) : gOp P ops Q i K a w := by
 unfold Proofs.YtcjgimlcefhhmaaGreatDoor.Stip.gOp wpOp
 simp only [hi]
 have hr : ∀ o_1 : Oper, some o = some o_1 → relOf o_1 w w := fun _ _ => relOf.refl _ _
 rcases hy with ⟨hw, hv⟩ | ⟨hw, rfl⟩
 ·simp only [hw, if_true, Oper.wp, hv w (.inl (Gr.refl w)), Oper.upon]; exact .inl ⟨hr, h⟩
 ·simp only [hw, Bool.false_eq_true, if_false]; exact ⟨hr, h⟩
theorem ξ5f {j : Nat} {oi oj : Oper} {v : Value} (hj : ops[j]? = some oj) (hap : oi.apart ops oj = true) (hst : isStore oj = false ∨ pureOp oi = true)
  (hsi : ∀ cs b, oi.op ≠ .select cs b) (hsj : ∀ cs b, oj.op ≠ .select cs b)
  (hQ : ∀ c a d v w, Q (.panic c) (a.put d v) w → Q (.panic c) a w) {K : Act → World → Prop} {a : Act} {w : World}
  (hy : ξk P ops oi v a w) (h : gOp P ops Q j K (a.put oi.dst v) w) :
  gOp P ops Q j (fun a' w' => ξk P ops oi v a' w' ∧ K (a'.put oi.dst v) w') a w := by
 obtain ⟨h1, h2, h3⟩ := Oper.apart_spec hap
 have keep : ∀ (a : Act) (w : World), ξk P ops oi v a w → ∀ u, ξk P ops oi v (a.put oj.dst u) w := fun a w hy u =>
  hy.of_same (execOp_put oi hsi a oj.dst u h3) (wanted_put oi a oj.dst u h3)
 have keepD : ∀ d w, ξk P ops oi v a w → ξk P ops oi v { a with defers := d :: a.defers } w := fun d w hy => hy.of_same rfl rfl
 unfold gOp wpOp at *
 simp only [hj] at *
 rw [wanted_put oj a oi.dst v h1] at h
 split
 ·rename_i hw
  simp only [hw, if_true] at h
  rcases h with h | ⟨hasks, hlets⟩
  case inr => exact .inr ⟨by unfold Oper.asks at *; rw [execOp_put oj hsj a oi.dst v h1] at hasks; exact hasks, hlets⟩
  refine .inl ?_
  unfold Oper.wp at *
  rw [execOp_put oj hsj a oi.dst v h1] at h
  generalize (execOp a.eval oj).run P w = r at *
  cases r with
  | ok n w' =>
   cases n <;> simp only [Oper.upon] at h ⊢
   case value u => exact ⟨h.1, keep a w' (hy.grow (hst.imp (h.1 oj rfl) id)) u, by rw [← Act.put_comm a v u h2]; exact h.2⟩
   case skip => exact ⟨h.1, keep a w' (hy.grow (hst.imp (h.1 oj rfl) id)) _, by rw [← Act.put_comm a v undef h2]; exact h.2⟩
   case defer d =>
    refine ⟨h.1, keep _ w' (keepD d w' (hy.grow (hst.imp (h.1 oj rfl) id))) _, ?_⟩
    rw [← Act.put_comm _ v undef h2, ← Act.put_defers]
    exact h.2
   case enter f args =>
    refine Calls.mono h fun e w'' he => ?_
    cases e with
    | returned u => exact ⟨he.1, keep a w'' (hy.grow (hst.imp (he.1 oj rfl) id)) u, by rw [← Act.put_comm a v u h2]; exact he.2⟩
    | panicked c => exact hQ _ _ _ _ _ he
    | outgrown => exact he
   case row row args => exact Rows.mono h fun u w'' he => ⟨he.1, keep a w'' (hy.grow (hst.imp (he.1 oj rfl) id)) u, by rw [← Act.put_comm a v u h2]; exact he.2⟩
  | halt x w' =>
   cases x <;> simp only [Oper.upon] at h ⊢
   case panic u => exact hQ _ _ _ _ _ h
 ·rename_i hw
  simp only [hw] at h
  exact ⟨h.1, keep a w (hy) _, by rw [← Act.put_comm a v undef h2]; exact h.2⟩
theorem ξ4A {i : Nat} {a : Act} {w : World} {K K' : Act → World → Prop} (h : ∀ a w, K a w → K' a w)
  (hh : gOp P ops Q i K a w) : gOp P ops Q i K' a w := wpOp_mono (fun a w hk => ⟨hk.1, h a w hk.2⟩) hh
def ξB (md : Region.Mode) (ops : Array Oper) (listed : Array Bool) : Prop :=
 ∀ j o, ops[j]? = some o → listed.getD j false = true → ∀ e ∈ o.after, Region.binds md e = true → listed.getD e.on false = true
theorem ξB.set {listed : Array Bool} {i : Nat} (hc : ξB md ops listed) (hr : i ∈ Region.ready md ops listed) : ξB md ops (listed.setIfInBounds i true) := by
 intro j o hj hl e he hb
 refine getD_set_true ?_
 obtain ⟨_, oi, hoi, hall⟩ := mem_ready.1 hr
 by_cases hji : i = j
 ·subst hji; rw [hj] at hoi; cases hoi; exact hall e he hb
 ·rw [getD_set_ne false hji] at hl; exact hc j o hj hl e he hb
inductive ξA (md : Region.Mode) (ops : Array Oper) (i : Nat) : Nat → Prop
 | base {j : Nat} {o : Oper} {e : Edge} (hj : ops[j]? = some o) (he : e ∈ o.after) (hb : Region.binds md e = true) (h : e.on = i) : ξA md ops i j
 | step {j : Nat} {o : Oper} {e : Edge} (hj : ops[j]? = some o) (he : e ∈ o.after) (hb : Region.binds md e = true) (h : ξA md ops i e.on) : ξA md ops i j
theorem ξA.listed {listed : Array Bool} {i j : Nat} (hc : ξB md ops listed) (h : ξA md ops i j) (hl : listed.getD j false = true) : listed.getD i false = true := by
 induction h with
 | base hj he hb h => subst h; exact hc _ _ hj hl _ he hb
 | step hj he hb h ih => exact ih (hc _ _ hj hl _ he hb)
theorem ξA.not_ready {listed : Array Bool} {i j : Nat} (hc : ξB md ops listed) (hi : i ∈ Region.ready md ops listed) (hj : j ∈ Region.ready md ops listed) : ¬ ξA md ops i j := by
 intro h
 obtain ⟨hu, _⟩ := mem_ready.1 hi
 obtain ⟨_, o', hoj, hall⟩ := mem_ready.1 hj
 have key : listed.getD i false = true := by
  cases h with
  | base hj he hb h => rw [hj] at hoj; cases hoj; subst h; exact hall _ he hb
  | step hj he hb h => rw [hj] at hoj; cases hoj; exact h.listed hc (hall _ he hb)
 rcases Nat.lt_or_ge i listed.size with h' | h'
 ·simp [h'] at hu key; rw [hu] at key; cases key
 ·simp [Array.getElem?_eq_none h'] at hu
theorem ξO {i : Nat} {oi : Oper} {v : Value} (hi : ops[i]? = some oi) (hsel : ∀ (j : Nat) (o : Oper) cs b, ops[j]? = some o → o.op ≠ .select cs b)
  (hQ : ∀ c a d v w, Q (.panic c) (a.put d v) w → Q (.panic c) a w) :
  ∀ (fuel : Nat) (listed : Array Bool) (a : Act) (w : World), ξB md ops listed →
   (∀ j oj, ops[j]? = some oj → j ≠ i → listed.getD j true = false → ¬ ξA md ops i j → oi.apart ops oj = true ∧ (isStore oj = false ∨ pureOp oi = true)) →
   i ∈ Region.ready md ops listed → ξk P ops oi v a w →
   wpAnyG P md ops Q fuel (listed.setIfInBounds i true) (a.put oi.dst v) w → wpAnyG P md ops Q (fuel + 1) listed a w := by
 intro fuel
 induction fuel with
 | zero =>
  intro listed a w _ _ hr hy H
  refine ⟨fun h => (by rw [h] at hr; cases hr), fun j hj => ?_⟩
  by_cases hji : j = i
  ·subst hji; exact hy.gOp hi H
  ·have := ready_mono hj hji
   rw [H.1] at this
   cases this
 | succ fuel ih =>
  intro listed a w hc hfree hr hy H
  refine ⟨fun h => (by rw [h] at hr; cases hr), fun j hj => ?_⟩
  by_cases hji : j = i
  ·subst hji; exact hy.gOp hi H
  ·have h1 := H.2 j (ready_mono hj hji)
   obtain ⟨hjun, oj, hoj, hall⟩ := mem_ready.1 hj
   obtain ⟨hap, hst⟩ := hfree j oj hoj hji hjun (ξA.not_ready hc hr hj)
   have h2 := ξ5f hoj hap hst (fun cs b => hsel i oi cs b hi) (fun cs b => hsel j oj cs b hoj) hQ hy h1
   have hfree' : ∀ k ok, ops[k]? = some ok → k ≠ i → (listed.setIfInBounds j true).getD k true = false →
     ¬ ξA md ops i k → oi.apart ops ok = true ∧ (isStore ok = false ∨ pureOp oi = true) := fun k ok hk hki hun hno => by
    refine hfree k ok hk hki ?_ hno
    by_cases hjk : j = k
    ·subst hjk; exact hjun
    ·rw [getD_set_ne true hjk] at hun; exact hun
   refine ξ4A (fun a' w' h3 => ih (listed.setIfInBounds j true) a' w' (hc.set hj) hfree' (ready_mono hr (Ne.symm hji)) h3.1 ?_) h2
   rw [Array.setIfInBounds_comm _ _ hji]
   exact h3.2
def wpE (P : Program) (ops : Array Oper) (Q : Exit → Act → World → Prop) : List (Nat × Bool) → Act → World → Prop
 | [], a, w => Q .normal a w
 | (i, r) :: rest, a, w => ∃ o, ops[i]? = some o ∧
   if Region.wanted o (yielded ops a.tmps) = true then
    (if r = true then ∃ v, (∀ w', Gr w w' → (execOp a.eval o).run P w' = .ok (.value v) w') ∧ wpE P ops Q rest (a.put o.dst v) w
     else Oper.wp P o a w (fun a' w' => relOf o w w' ∧ wpE P ops Q rest a' w') Q)
   else wpE P ops Q rest (a.put o.dst undef) w
def waitsGo (md : Region.Mode) (i : Nat) : List Oper → Array Bool → Array Bool
 | [], acc => acc
 | o :: l, acc => waitsGo md i l (acc.push (o.after.any fun e => Region.binds md e && (e.on == i || acc.getD e.on false)))
theorem ξ0G {i : Nat} : ∀ (l : List Oper) (acc : Array Bool), (∀ j, l[j]? = ops[acc.size + j]?) → (∀ j, acc.getD j false = true → ξA md ops i j) →
  ∀ j, (waitsGo md i l acc).getD j false = true → ξA md ops i j
 | [], _, _, hacc => hacc
 | o :: l, acc, hl, hacc => by
  refine ξ0G l _ (fun j => ?_) (fun j hj => ?_)
  ·have := hl (j + 1)
   simpa [Nat.add_assoc, Nat.add_comm 1 j] using this
  ·by_cases h : j = acc.size
   ·subst h
    simp only [Array.getD_eq_getD_getElem?, Array.getElem?_push_size, Option.getD_some] at hj
    obtain ⟨e, he, hb⟩ := Array.any_eq_true'.1 hj
    simp only [Bool.and_eq_true, Bool.or_eq_true, beq_iff_eq] at hb
    have h0 : ops[acc.size]? = some o := by simpa using (hl 0).symm
    rcases hb.2 with h | h
    ·exact .base h0 he hb.1 h
    ·exact .step h0 he hb.1 (hacc _ (by simpa [Array.getD_eq_getD_getElem?] using h))
   ·refine hacc j ?_
    simpa [Array.getD_eq_getD_getElem?, Array.getElem?_push, h] using hj
def freeG (md : Region.Mode) (ops : Array Oper) (listed : Array Bool) (i : Nat) : Bool :=
 match ops[i]? with
 | none => false
 | some oi =>
  (List.range ops.size).all fun j => j == i || listed.getD j true || match ops[j]? with
   | some oj => (oi.apart ops oj && (!isStore oj || pureOp oi)) || (waitsGo md i ops.toList #[]).getD j false
   | none => true
theorem ξ0R {i : Nat} {oi : Oper} {listed : Array Bool} (hi : ops[i]? = some oi) (h : freeG md ops listed i = true) (j : Nat) (oj : Oper)
  (hj : ops[j]? = some oj) (hne : j ≠ i) (hun : listed.getD j true = false) (hno : ¬ ξA md ops i j) :
  oi.apart ops oj = true ∧ (isStore oj = false ∨ pureOp oi = true) := by
 simp only [freeG, hi, List.all_eq_true, List.mem_range] at h
 have h1 := h j (Array.getElem?_eq_some_iff.1 hj).1
 simp only [hj, Bool.or_eq_true, beq_iff_eq, hne, false_or, hun, Bool.false_eq_true] at h1
 rcases h1 with h1 | h1
 ·simpa using h1
 ·exact absurd (ξ0G (md := md) (ops := ops) (i := i) ops.toList #[] (by simp) (by simp) j h1) hno
def eagerB (md : Region.Mode) (ops : Array Oper) : List (Nat × Bool) → Array Bool → Bool
 | [], listed => (Region.ready md ops listed).isEmpty
 | (i, r) :: rest, listed => (if r then (Region.ready md ops listed).contains i && freeG md ops listed i else Region.ready md ops listed == [i]) && eagerB md ops rest (listed.setIfInBounds i true)
theorem ξM (hs : Region.noSelect ops = true) (hQ : ∀ c a d v w, Q (.panic c) (a.put d v) w → Q (.panic c) a w) :
  ∀ (l : List (Nat × Bool)) (listed : Array Bool) (a : Act) (w : World), ξB md ops listed → eagerB md ops l listed = true → wpE P ops Q l a w → wpAnyG P md ops Q l.length listed a w
 | [], listed, a, w, _, hB, h => ⟨by simpa [eagerB] using hB, h⟩
 | (i, true) :: l, listed, a, w, hc, hB, h => by
  simp only [eagerB, if_true, Bool.and_eq_true] at hB
  obtain ⟨⟨hr, hf⟩, hB'⟩ := hB
  obtain ⟨o, ho, h⟩ := h
  have hr' : i ∈ Region.ready md ops listed := by simpa using hr
  by_cases hw : Region.wanted o (yielded ops a.tmps) = true
  ·rw [if_pos hw, if_pos rfl] at h
   obtain ⟨v, hv, h⟩ := h
   exact ξO ho (Region.noSelect_spec hs) hQ l.length listed a w hc (ξ0R ho hf) hr' (.mk hw hv) (ξM hs hQ l _ _ _ (hc.set hr') hB' h)
  ·rw [if_neg hw] at h
   exact ξO ho (Region.noSelect_spec hs) hQ l.length listed a w hc (ξ0R ho hf) hr' (.inr ⟨by simpa using hw, rfl⟩) (ξM hs hQ l _ _ _ (hc.set hr') hB' h)
 | (i, false) :: l, listed, a, w, hc, hB, h => by
  simp only [eagerB, Bool.false_eq_true, if_false, Bool.and_eq_true, beq_iff_eq] at hB
  obtain ⟨hr, hB'⟩ := hB
  obtain ⟨o, ho, h⟩ := h
  refine ⟨fun h0 => (by rw [hr] at h0; cases h0), fun j hj => ?_⟩
  rw [hr, List.mem_singleton] at hj
  subst hj
  have hc' : ξB md ops (listed.setIfInBounds j true) := hc.set (by rw [hr]; simp)
  unfold gOp wpOp
  simp only [ho]
  by_cases hw : Region.wanted o (yielded ops a.tmps) = true
  ·rw [if_pos hw, if_neg (by simp)] at h
   rw [if_pos hw]
   refine .inl (Oper.wp_mono (fun a' w' hk => ⟨fun o' ho' => ?_, ξM hs hQ l _ _ _ hc' hB' hk.2⟩) h)
   cases ho'; exact hk.1
  ·rw [if_neg hw] at h
   rw [if_neg hw]
   exact ⟨fun _ _ => relOf.refl _ _, ξM hs hQ l _ _ _ hc' hB' h⟩
theorem ξL {id : Nat} {a : Act} {w : World} (order : List (Nat × Bool)) (hm : P.follows .mixedOrders = true) (hs : Region.noSelect ops = true)
  (hn : order.length = ops.size) (hB : eagerB .any ops order (Array.replicate ops.size false) = true) (hQ : ∀ c a d v w, Q (.panic c) (a.put d v) w → Q (.panic c) a w)
  (h : wpE P ops Q order a w.drew) : (Code.region id ops true).wp P Q a w := by
 refine wp_region_any hm (ξ0u _ _ _ _ ?_)
 have := ξM (md := .any) hs hQ order (Array.replicate ops.size false) a w.drew (fun j o _ hl => by simp [Array.getElem?_replicate] at hl; split at hl <;> simp at hl) hB h
 rw [hn] at this
 exact this
end region
section steps
variable {P : Program} {ops : Array Oper} {Q : Exit → Act → World → Prop} {i : Nat} {rest : List (Nat × Bool)} {a : Act} {w : World} {o : Oper}
theorem ξ9 (h : Q .normal a w) : wpE P ops Q [] a w := h
theorem ξ4C (ho : ops[i]? = some o) (hw : Region.wanted o (yielded ops a.tmps) = true)
  (h : ∀ K : Act → World → Prop, (∀ a w, wpE P ops Q rest a w → K a w) → ∃ v, (∀ w', Gr w w' → (execOp a.eval o).run P w' = .ok (.value v) w') ∧ K (a.put o.dst v) w) : wpE P ops Q ((i, true) :: rest) a w :=
 ⟨o, ho, by rw [if_pos hw, if_pos rfl]; exact h _ (fun _ _ h => h)⟩
theorem ξ2 {wb : World} (hb : Gr wb w) (ho : ops[i]? = some o) (hw : Region.wanted o (yielded ops a.tmps) = true) {v : Value} (hv : ∀ w', Gr wb w' → (execOp a.eval o).run P w' = .ok (.value v) w')
  (h : ∀ K : Act → World → Prop, (∀ a w, wpE P ops Q rest a w → K a w) → K (a.put o.dst v) w) : wpE P ops Q ((i, true) :: rest) a w :=
 ⟨o, ho, by rw [if_pos hw, if_pos rfl]; exact ⟨v, fun w' hg => hv w' (hb.trans hg), h _ (fun _ _ h => h)⟩⟩
theorem ξi (ho : ops[i]? = some o) (hw : Region.wanted o (yielded ops a.tmps) = true)
  (h : ∀ K : Act → World → Prop, (∀ a w, wpE P ops Q rest a w → K a w) → Oper.wp P o a w (fun a' w' => relOf o w w' ∧ K a' w') Q) : wpE P ops Q ((i, false) :: rest) a w :=
 ⟨o, ho, by rw [if_pos hw, if_neg (by simp)]; exact h _ (fun _ _ h => h)⟩
theorem ξ0g {r : Bool} (ho : ops[i]? = some o) (hw : Region.wanted o (yielded ops a.tmps) = false) (h : wpE P ops Q rest (a.put o.dst undef) w) : wpE P ops Q ((i, r) :: rest) a w :=
 ⟨o, ho, by rw [if_neg (by simp [hw])]; exact h⟩
end steps
section region
variable {P : Program} {ops : Array Oper} {md : Region.Mode} {Q : Exit → Act → World → Prop}
def predsM (md : Region.Mode) : List Edge → Nat
 | [] => 0
 | e :: l => bif Region.binds md e then Nat.lor (Nat.pow 2 e.on) (predsM md l) else predsM md l
theorem ξ0i {k : Nat} : ∀ l : List Edge, (predsM md l).testBit k = true ↔ ∃ e ∈ l, Region.binds md e = true ∧ e.on = k
 | [] => by simp [predsM]
 | e :: l => by
  have ih := ξ0i (k := k) l
  unfold predsM
  cases hb : Region.binds md e
  ·simp [ih, hb]
  ·show ((2 ^ e.on ||| predsM md l).testBit k = true) ↔ _
   rw [Nat.testBit_or, Bool.or_eq_true, ih, Nat.testBit_two_pow]
   simp [hb]
def subM (p L : Nat) : Bool := Nat.beq (Nat.land p L) p
theorem ξ4D {p L : Nat} : subM p L = true ↔ ∀ k, p.testBit k = true → L.testBit k = true := by
 unfold subM
 rw [Nat.beq_eq]
 show (p &&& L = p) ↔ _
 constructor
 ·intro h k hk
  rw [← h, Nat.testBit_and, Bool.and_eq_true] at hk
  exact hk.2
 ·intro h
  apply Nat.eq_of_testBit_eq
  intro k
  rw [Nat.testBit_and]
  cases hp : p.testBit k
  ·rfl
  ·rw [h k hp]; rfl
def tb (m n : Nat) : Bool := Nat.beq (Nat.land 1 (Nat.shiftRight m n)) 1
theorem ξ2n (m n : Nat) : tb m n = m.testBit n := by
 unfold tb Nat.testBit
 have h : Nat.land 1 (Nat.shiftRight m n) = (m >>> n) % 2 := by
  show 1 &&& (m >>> n) = _
  rw [Nat.and_comm, Nat.and_one_is_mod]
 show Nat.beq (Nat.land 1 (Nat.shiftRight m n)) 1 = (1 &&& (m >>> n) != 0)
 rw [show 1 &&& (m >>> n) = Nat.land 1 (Nat.shiftRight m n) from rfl, h]
 have := Nat.mod_lt (m >>> n) (show 0 < 2 by decide)
 generalize (m >>> n) % 2 = x at *
 match x, this with
 | 0, _ => rfl
 | 1, _ => rfl
def waitsM (md : Region.Mode) (I : Nat) : List Oper → Nat → Nat → Nat
 | [], _, W => W
 | o :: l, k, W => bif Nat.beq (Nat.land (predsM md o.after.toList) (Nat.lor W I)) 0 then waitsM md I l (k + 1) W else waitsM md I l (k + 1) (Nat.lor W (Nat.pow 2 k))
theorem ξ0k {i : Nat} : ∀ (l : List Oper) (k W : Nat), (∀ j, l[j]? = ops[k + j]?) → (∀ j, W.testBit j = true → ξA md ops i j) →
  ∀ j, (waitsM md (2 ^ i) l k W).testBit j = true → ξA md ops i j
 | [], _, _, _, hW => hW
 | o :: l, k, W, hl, hW => by
  have hl' : ∀ j, l[j]? = ops[k + 1 + j]? := fun j => by
   have := hl (j + 1)
   simpa [Nat.add_assoc, Nat.add_comm 1 j] using this
  have h0 : ops[k]? = some o := by simpa using (hl 0).symm
  unfold waitsM
  cases hb : Nat.beq (Nat.land (predsM md o.after.toList) (Nat.lor W (2 ^ i))) 0
  ·refine ξ0k l (k + 1) _ hl' (fun j hj => ?_)
   have hj : (W ||| 2 ^ k).testBit j = true := hj
   rw [Nat.testBit_or, Bool.or_eq_true, Nat.testBit_two_pow] at hj
   rcases hj with hj | hj
   ·exact hW j hj
   ·obtain rfl : k = j := by simpa using hj
    have hne : predsM md o.after.toList &&& (W ||| 2 ^ i) ≠ 0 := fun h => by
     rw [show Nat.land (predsM md o.after.toList) (Nat.lor W (2 ^ i)) = predsM md o.after.toList &&& (W ||| 2 ^ i) from rfl, h] at hb
     cases hb
    obtain ⟨t, ht⟩ := Nat.exists_testBit_of_ne_zero hne
    rw [Nat.testBit_and, Nat.testBit_or, Bool.and_eq_true, Bool.or_eq_true, Nat.testBit_two_pow] at ht
    obtain ⟨e, he, hbe, rfl⟩ := (ξ0i _).1 ht.1
    have he : e ∈ o.after := by simpa using he
    rcases ht.2 with h | h
    ·exact .step h0 he hbe (hW _ h)
    ·exact .base h0 he hbe (by simpa using Eq.symm (by simpa using h))
  ·exact ξ0k l (k + 1) _ hl' hW
def freeM (ops : Array Oper) (oi : Oper) (skip : Nat) : List Oper → Nat → Bool
 | [], _ => true
 | o :: l, j => (tb skip j || (oi.apart ops o && (!isStore o || pureOp oi))) && freeM ops oi skip l (j + 1)
theorem ξ1H {oi : Oper} {skip : Nat} : ∀ (l : List Oper) (k : Nat), (∀ j, l[j]? = ops[k + j]?) → freeM ops oi skip l k = true →
  ∀ j o, k ≤ j → ops[j]? = some o → skip.testBit j = false → oi.apart ops o = true ∧ (isStore o = false ∨ pureOp oi = true)
 | [], k, hl, _, j, o, hk, hj, _ => by
  have := hl (j - k)
  rw [show k + (j - k) = j by omega, hj] at this
  cases this
 | o' :: l, k, hl, h, j, o, hk, hj, hs => by
  unfold freeM at h
  rw [Bool.and_eq_true] at h
  by_cases hjk : j = k
  ·subst hjk
   have h0 : ops[j]? = some o' := by simpa using (hl 0).symm
   rw [h0] at hj
   cases hj
   have h1 := h.1
   rw [ξ2n, hs, Bool.false_or] at h1
   simpa using h1
  ·exact ξ1H l (k + 1) (fun j => by have := hl (j + 1); simpa [Nat.add_assoc, Nat.add_comm 1 j] using this) h.2 j o (by omega) hj hs
def onlyM (md : Region.Mode) (L skip : Nat) : List Oper → Nat → Bool
 | [], _ => true
 | o :: l, j => (tb skip j || !subM (predsM md o.after.toList) L) && onlyM md L skip l (j + 1)
theorem ξ0b {L skip : Nat} : ∀ (l : List Oper) (k : Nat), (∀ j, l[j]? = ops[k + j]?) → onlyM md L skip l k = true →
  ∀ j o, k ≤ j → ops[j]? = some o → skip.testBit j = false → subM (predsM md o.after.toList) L = false
 | [], k, hl, _, j, o, hk, hj, _ => by
  have := hl (j - k)
  rw [show k + (j - k) = j by omega, hj] at this
  cases this
 | o' :: l, k, hl, h, j, o, hk, hj, hs => by
  unfold onlyM at h
  rw [Bool.and_eq_true] at h
  by_cases hjk : j = k
  ·subst hjk
   have h0 : ops[j]? = some o' := by simpa using (hl 0).symm
   rw [h0] at hj
   cases hj
   have h1 := h.1
   rw [ξ2n, hs, Bool.false_or] at h1
   simpa using h1
  ·exact ξ0b l (k + 1) (fun j => by have := hl (j + 1); simpa [Nat.add_assoc, Nat.add_comm 1 j] using this) h.2 j o (by omega) hj hs
def fastB (md : Region.Mode) (ops : Array Oper) (os : List Oper) : List (Nat × Bool) → Nat → Bool
 | [], L => onlyM md L L os 0
 | (i, r) :: rest, L => match os[i]? with
  | none => false
  | some oi => (!tb L i && subM (predsM md oi.after.toList) L) &&
   ((bif r then freeM ops oi (Nat.lor (Nat.lor L (Nat.pow 2 i)) (waitsM md (Nat.pow 2 i) os 0 0)) os 0 else onlyM md L (Nat.lor L (Nat.pow 2 i)) os 0) &&
    fastB md ops os rest (Nat.lor L (Nat.pow 2 i)))
theorem ξ0o {L : Nat} {listed : Array Bool} (hs : listed.size = ops.size) (hL : ∀ j, listed.getD j false = L.testBit j) {i : Nat} {o : Oper} (ho : ops[i]? = some o) :
  i ∈ Region.ready md ops listed ↔ L.testBit i = false ∧ subM (predsM md o.after.toList) L = true := by
 have hi : i < listed.size := by rw [hs]; exact (Array.getElem?_eq_some_iff.1 ho).1
 have e : listed.getD i true = L.testBit i := by rw [← hL i]; simp [hi]
 rw [mem_ready, e, ξ4D]
 constructor
 ·rintro ⟨h1, o', ho', h2⟩
  rw [ho] at ho'
  cases ho'
  refine ⟨h1, fun k hk => ?_⟩
  obtain ⟨e, he, hb, rfl⟩ := (ξ0i _).1 hk
  rw [← hL]; exact h2 e (by simpa using he) hb
 ·rintro ⟨h1, h2⟩
  exact ⟨h1, o, ho, fun e he hb => by rw [hL]; exact h2 _ ((ξ0i _).2 ⟨e, by simpa using he, hb, rfl⟩)⟩
theorem ξ2L {L i : Nat} {listed : Array Bool} (hi : i < listed.size) (hL : ∀ j, listed.getD j false = L.testBit j) (j : Nat) :
  (listed.setIfInBounds i true).getD j false = (Nat.lor L (Nat.pow 2 i)).testBit j := by
 show _ = (L ||| 2 ^ i).testBit j
 rw [Nat.testBit_or, Nat.testBit_two_pow, ← hL j]
 by_cases h : i = j
 ·subst h
  simp [hi]
 ·rw [getD_set_ne false h]
  simp [h]
theorem ξZ (hs : Region.noSelect ops = true) (hQ : ∀ c a d v w, Q (.panic c) (a.put d v) w → Q (.panic c) a w) :
  ∀ (l : List (Nat × Bool)) (L : Nat) (listed : Array Bool) (a : Act) (w : World), listed.size = ops.size → (∀ j, listed.getD j false = L.testBit j) → ξB md ops listed → fastB md ops ops.toList l L = true → wpE P ops Q l a w → wpAnyG P md ops Q l.length listed a w
 | [], L, listed, a, w, hz, hL, _, hB, h => by
  refine ⟨?_, h⟩
  rw [List.eq_nil_iff_forall_not_mem]
  intro j hj
  obtain ⟨_, o, ho, _⟩ := mem_ready.1 hj
  have h1 := (ξ0o hz hL ho).1 hj
  have h2 := ξ0b ops.toList 0 (by simp) hB j o (Nat.zero_le _) ho h1.1
  rw [h1.2] at h2
  cases h2
 | (i, r) :: l, L, listed, a, w, hz, hL, hc, hB, h => by
  obtain ⟨o, ho, h⟩ := h
  have hlt : i < listed.size := by rw [hz]; exact (Array.getElem?_eq_some_iff.1 ho).1
  have ho' : ops.toList[i]? = some o := by simpa using ho
  simp only [fastB, ho', Bool.and_eq_true, ξ2n] at hB
  obtain ⟨⟨hr1, hr2⟩, hf, hB'⟩ := hB
  have hr' : i ∈ Region.ready md ops listed := (ξ0o hz hL ho).2 ⟨by simpa using hr1, hr2⟩
  have hz' : (listed.setIfInBounds i true).size = ops.size := by simpa using hz
  have hL' := ξ2L hlt hL
  cases r
  ·have hf : onlyM md L (Nat.lor L (Nat.pow 2 i)) ops.toList 0 = true := hf
   have hone : ∀ j ∈ Region.ready md ops listed, j = i := fun j hj => by
    obtain ⟨_, oj, hoj, _⟩ := mem_ready.1 hj
    have h1 := (ξ0o hz hL hoj).1 hj
    by_cases hji : j = i
    ·exact hji
    ·have h3 : (Nat.lor L (Nat.pow 2 i)).testBit j = false := by
      show (L ||| 2 ^ i).testBit j = false
      rw [Nat.testBit_or, h1.1, Nat.testBit_two_pow]
      simp [Ne.symm hji]
     have h2 := ξ0b ops.toList 0 (by simp) hf j oj (Nat.zero_le _) hoj h3
     rw [h1.2] at h2
     cases h2
   refine ⟨fun h0 => (by rw [h0] at hr'; cases hr'), fun j hj => ?_⟩
   obtain rfl := hone j hj
   have hc' : ξB md ops (listed.setIfInBounds j true) := hc.set hr'
   unfold gOp wpOp
   simp only [ho]
   by_cases hw : Region.wanted o (yielded ops a.tmps) = true
   ·rw [if_pos hw, if_neg (by simp)] at h
    rw [if_pos hw]
    refine .inl (Oper.wp_mono (fun a' w' hk => ⟨fun o' ho' => ?_, ξZ hs hQ l _ _ _ _ hz' hL' hc' hB' hk.2⟩) h)
    cases ho'; exact hk.1
   ·rw [if_neg hw] at h
    rw [if_neg hw]
    exact ⟨fun _ _ => relOf.refl _ _, ξZ hs hQ l _ _ _ _ hz' hL' hc' hB' h⟩
  ·have hf : freeM ops o (Nat.lor (Nat.lor L (Nat.pow 2 i)) (waitsM md (Nat.pow 2 i) ops.toList 0 0)) ops.toList 0 = true := hf
   have hfree : ∀ j oj, ops[j]? = some oj → j ≠ i → listed.getD j true = false → ¬ ξA md ops i j → o.apart ops oj = true ∧ (isStore oj = false ∨ pureOp o = true) := fun j oj hj hne hun hno => by
    refine ξ1H ops.toList 0 (by simp) hf j oj (Nat.zero_le _) hj ?_
    have hjl : j < listed.size := by rw [hz]; exact (Array.getElem?_eq_some_iff.1 hj).1
    have e : listed.getD j true = L.testBit j := by rw [← hL j]; simp [hjl]
    show ((L ||| 2 ^ i) ||| waitsM md (2 ^ i) ops.toList 0 0).testBit j = false
    rw [Nat.testBit_or, Nat.testBit_or, ← e, hun, Nat.testBit_two_pow]
    cases hwt : (waitsM md (2 ^ i) ops.toList 0 0).testBit j
    ·simp [Ne.symm hne]
    ·exact absurd (ξ0k (md := md) (ops := ops) (i := i) ops.toList 0 0 (by simp) (by simp) j hwt) hno
   by_cases hw : Region.wanted o (yielded ops a.tmps) = true
   ·rw [if_pos hw, if_pos rfl] at h
    obtain ⟨v, hv, h⟩ := h
    exact ξO ho (Region.noSelect_spec hs) hQ l.length listed a w hc hfree hr' (.mk hw hv) (ξZ hs hQ l _ _ _ _ hz' hL' (hc.set hr') hB' h)
   ·rw [if_neg hw] at h
    exact ξO ho (Region.noSelect_spec hs) hQ l.length listed a w hc hfree hr' (.inr ⟨by simpa using hw, rfl⟩) (ξZ hs hQ l _ _ _ _ hz' hL' (hc.set hr') hB' h)
theorem ξ3 {id : Nat} {a : Act} {w : World} (order : List (Nat × Bool)) (hm : P.follows .mixedOrders = true) (hs : Region.noSelect ops = true)
  (hn : order.length = ops.size) (hB : fastB .any ops ops.toList order 0 = true) (hQ : ∀ c a d v w, Q (.panic c) (a.put d v) w → Q (.panic c) a w)
  (h : wpE P ops Q order a w.drew) : (Code.region id ops true).wp P Q a w := by
 refine wp_region_any hm (ξ0u _ _ _ _ ?_)
 have := ξZ (md := .any) hs hQ order 0 (Array.replicate ops.size false) a w.drew (by simp) (fun j => by
  rw [Nat.zero_testBit]
  by_cases hj : j < ops.size <;> simp [Array.getElem?_replicate, hj]) (fun j o _ hl => by simp [Array.getElem?_replicate] at hl; split at hl <;> simp at hl) hB h
 rw [hn] at this
 exact this
end region
theorem ξ4E {P : Program} {ops : Array Oper} {Q : Exit → Act → World → Prop} {i : Nat} {rest : List (Nat × Bool)} {a : Act} {w : World} {o : Oper} {f : FuncId} {args : Array Value}
  (ho : ops[i]? = some o) (hw : Region.wanted o (yielded ops a.tmps) = true) (hx : (execOp a.eval o).run P w = .ok (.enter f args) w)
  (h : ∀ K : Act → World → Prop, (∀ a w, wpE P ops Q rest a w → K a w) → Calls P f args w fun e w' => ∃ v, e = .returned v ∧ Gr w w' ∧ K (a.put o.dst v) w') : wpE P ops Q ((i, false) :: rest) a w := by
 refine ξi ho hw fun K hK => ?_
 unfold Oper.wp
 rw [hx]
 simp only [Oper.upon]
 refine (h K hK).mono ?_
 rintro e w' ⟨v, rfl, hg, hk⟩
 exact ⟨fun _ => hg, hk⟩
theorem ξ43 {P : Program} {ρ : Operand → Value} {o : Oper} {w : World} {c : Call} {x : Operand} {f : FuncId} {first caps : Array Value} {fn : Func} (hop : o.op = .call c) (hc : c.callee = .value x)
  (hx : ρ x = .func (.func f) first caps) (hf : P.funcs[f]? = some fn) (hn : (fn.name == "runtime.NumGoroutine") = false) (hb : fn.body.isNone = false) :
  (execOp ρ o).run P w = .ok (.enter f ((first ++ c.args.map ρ) ++ caps)) w := by
 have hn' : ¬ fn.name = "runtime.NumGoroutine" := by simpa using hn
 have hb' : ¬ fn.body = none := by intro h; rw [h] at hb; cases hb
 unfold execOp
 simp only [hop, resolve, hc, hx, Deferred.ofValue, invoke, callFunc]
 simp [go_sem, hf, hn', hb']
theorem ξ7 {P : Program} {ops : Array Oper} {Q : Exit → Act → World → Prop} {i : Nat} {rest : List (Nat × Bool)} {a : Act} {w : World} {o : Oper} {c : Call} {x : Operand} {f : FuncId} {first caps args : Array Value} {fn : Func}
  (ho : ops[i]? = some o) (hw : Region.wanted o (yielded ops a.tmps) = true) (hop : o.op = .call c) (hc : c.callee = .value x) (hx : a.eval x = .func (.func f) first caps)
  (hf : P.funcs[f]? = some fn) (hn : (fn.name == "runtime.NumGoroutine") = false) (hb : fn.body.isNone = false) (hargs : (first ++ c.args.map a.eval) ++ caps = args)
  (h : ∀ K : Act → World → Prop, (∀ a w, wpE P ops Q rest a w → K a w) → Calls P f args w fun e w' => ∃ v, e = .returned v ∧ Gr w w' ∧ K (a.put o.dst v) w') : wpE P ops Q ((i, false) :: rest) a w :=
 ξ4E ho hw (by rw [ξ43 hop hc hx hf hn hb, hargs]) h
end Go.Proofs.YtcjgimlcefhhmaaGreatDoor.Stip
namespace Go.Proofs.YtcjgimlcefhhmaaGreatDoor.LateS
open Go.RowKit
open Go.Proofs.YtcjgimlcefhhmaaGreatDoor.LateL (freeJ ξ0x)
open Go.Proofs.YtcjgimlcefhhmaaGreatDoor.Inv (bOp wpAnyB ξ1b ξY)
open Go.Proofs.YtcjgimlcefhhmaaGreatDoor.LateN
def Slid (U : Nat → Prop) (w w' : World) : Prop := w.heap.size ≤ w'.heap.size ∧ ∀ Z T b, ¬ U b → ξo Z T b w → ξo Z T b w'
theorem Slid.of_gr {U : Nat → Prop} {w w' : World} (g : Gr w w') : Slid U w w' := ⟨g.size, fun _ _ _ _ f => f.grow g⟩
theorem Slid.mono {U U' : Nat → Prop} {w w' : World} (h : Slid U w w') (hu : ∀ x, U x → U' x) : Slid U' w w' := ⟨h.1, fun Z T b hb f => h.2 Z T b (fun k => hb (hu b k)) f⟩
theorem Slid.of_grown {U : Nat → Prop} {w w' : World} {row : Option Nat} (g : w.grownBy w' row) (h : ∀ b, row = some b → U b) : Slid U w w' := ⟨g.size, fun Z T b hb f => by
 have hl := f.lt
 unfold ξo at f ⊢
 rw [g.block b hl (fun e => hb (h b e.symm))]
 exact f⟩
section
variable {P : Program} {ops : Array Oper} {md : Region.Mode} {Q : Exit → Act → World → Prop} {B : World → Prop} {nw : Nat → NewS}
def wpN (P : Program) (ops : Array Oper) (Q : Exit → Act → World → Prop) (B : World → Prop) (nw : Nat → NewS) : List (Nat × Nat) → (Nat → Prop) → Act → World → Prop
 | [], _, a, w => Q .normal a w
 | (i, k) :: rest, U, a, w => ∃ o, ops[i]? = some o ∧
   if k = 2 then ∀ w1 b, Gr w w1 → ξo (nw i).Z (nw i).T b w1 → ¬ U b → wpN P ops Q B nw rest (fun x => U x ∨ x = b) (a.put o.dst ((nw i).v b)) w1
   else if Region.wanted o (yielded ops a.tmps) = true then
    (if k = 1 then ∃ v, (∀ w', B w' → (execOp a.eval o).run P w' = .ok (.value v) w') ∧ wpN P ops Q B nw rest U (a.put o.dst v) w
     else ∀ w1, Gr w w1 → Oper.wp P o a w1 (fun a' w' => (hasAlloc rest = true → Slid U w1 w') ∧ B w' ∧ wpN P ops Q B nw rest (fun x => U x ∨ (w1.heap.size ≤ x ∧ x < w'.heap.size)) a' w') Q)
   else wpN P ops Q B nw rest U (a.put o.dst undef) w
theorem ξ07 : ∀ (l : List (Nat × Nat)) (U U' : Nat → Prop) (a : Act) (w : World), (∀ x, U x → U' x) → wpN P ops Q B nw l U a w → wpN P ops Q B nw l U' a w
 | [], _, _, _, _, _, h => h
 | (i, k) :: rest, U, U', a, w, hU, ⟨o, ho, h⟩ => by
  refine ⟨o, ho, ?_⟩
  by_cases hk : k = 2
  ·rw [if_pos hk] at h ⊢
   exact fun w1 b g f n => ξ07 rest _ _ _ _ (fun x hx => hx.imp (hU x) id) (h w1 b g f (fun hb => n (hU b hb)))
  ·rw [if_neg hk] at h ⊢
   by_cases hw : Region.wanted o (yielded ops a.tmps) = true
   ·rw [if_pos hw] at h ⊢
    by_cases hk1 : k = 1
    ·rw [if_pos hk1] at h ⊢
     obtain ⟨v, hv, h⟩ := h
     exact ⟨v, hv, ξ07 rest _ _ _ _ hU h⟩
    ·rw [if_neg hk1] at h ⊢
     exact fun w1 g => Oper.wp_mono (fun a' w' hk => ⟨fun hh => (hk.1 hh).mono hU, hk.2.1, ξ07 rest _ _ _ _ (fun x hx => hx.imp (hU x) id) hk.2.2⟩) (h w1 g)
   ·rw [if_neg hw] at h ⊢
    exact ξ07 rest _ _ _ _ hU h
theorem ξ1k : ∀ (l : List (Nat × Nat)) (U : Nat → Prop) (a : Act) (w w' : World), hasAlloc l = true → Gr w w' → wpN P ops Q B nw l U a w → wpN P ops Q B nw l U a w'
 | [], _, _, _, _, h, _, _ => by simp [hasAlloc] at h
 | (i, k) :: rest, U, a, w, w', hl, g, ⟨o, ho, h⟩ => by
  refine ⟨o, ho, ?_⟩
  by_cases hk : k = 2
  ·rw [if_pos hk] at h ⊢
   exact fun w1 b g1 f n => h w1 b (g.trans g1) f n
  ·have hl' : hasAlloc rest = true := by simpa [hasAlloc, hk] using hl
   rw [if_neg hk] at h ⊢
   by_cases hw : Region.wanted o (yielded ops a.tmps) = true
   ·rw [if_pos hw] at h ⊢
    by_cases hk1 : k = 1
    ·rw [if_pos hk1] at h ⊢
     obtain ⟨v, hv, h⟩ := h
     exact ⟨v, hv, ξ1k rest U _ _ _ hl' g h⟩
    ·rw [if_neg hk1] at h ⊢
     exact fun w1 g1 => h w1 (g.trans g1)
   ·rw [if_neg hw] at h ⊢
    exact ξ1k rest U _ _ _ hl' g h
theorem ξ0d {i : Nat} {oi : Oper} {b : Nat} (hi : ops[i]? = some oi) (hsel : ∀ (j : Nat) (o : Oper) cs b, ops[j]? = some o → o.op ≠ .select cs b)
  (hQ : ∀ c a d v w, Q (.panic c) a w → Q (.panic c) (a.put d v) w) :
  ∀ (l : List (Nat × Nat)) (U : Nat → Prop) (a : Act) (w : World), earlyN ops i oi l = true → ξo (nw i).Z (nw i).T b w → ¬ U b → wpN P ops Q B nw l U a w → wpN P ops Q B nw (eraseF i l) (fun x => U x ∨ x = b) (a.put oi.dst ((nw i).v b)) w
 | [], _, _, _, h, _, _, _ => by simp [earlyN] at h
 | (j, k) :: rest, U, a, w, hok, hf, hU, ⟨o, ho, h⟩ => by
  unfold earlyN at hok
  unfold eraseF
  by_cases hh : j = i ∧ k = 2
  ·obtain ⟨rfl, rfl⟩ := hh
   rw [if_pos ⟨rfl, rfl⟩]
   rw [hi] at ho
   cases ho
   rw [if_pos rfl] at h
   exact h w b (Gr.refl w) hf hU
  ·rw [if_neg hh] at hok ⊢
   simp only [ho, Bool.and_eq_true] at hok
   obtain ⟨hap, hok⟩ := hok
   obtain ⟨h1, h2, h3⟩ := Oper.apart_spec hap
   refine ⟨o, ho, ?_⟩
   by_cases hk : k = 2
   ·rw [if_pos hk] at h ⊢
    intro w1 b1 g1 f1 n1
    have := ξ0d hi hsel hQ rest _ _ _ hok (hf.grow g1) (fun hb => hb.elim hU (fun e => n1 (.inr e.symm))) (h w1 b1 g1 f1 (fun hb => n1 (.inl hb)))
    rw [Act.put_comm a ((nw i).v b) ((nw j).v b1) h2]
    exact ξ07 _ _ _ _ _ (fun x hx => by rcases hx with (hx | hx) | hx; exact .inl (.inl hx); exact .inr hx; exact .inl (.inr hx)) this
   ·rw [if_neg hk] at h ⊢
    rw [wanted_put o a oi.dst ((nw i).v b) h1]
    by_cases hw : Region.wanted o (yielded ops a.tmps) = true
    ·rw [if_pos hw] at h ⊢
     by_cases hk1 : k = 1
     ·rw [if_pos hk1] at h ⊢
      obtain ⟨v, hv, h⟩ := h
      refine ⟨v, fun w' g => by rw [execOp_put o (fun cs b => hsel j o cs b ho) a oi.dst _ h1]; exact hv w' g, ?_⟩
      rw [Act.put_comm a ((nw i).v b) v h2]
      exact ξ0d hi hsel hQ rest _ _ _ hok hf hU h
     ·rw [if_neg hk1] at h ⊢
      intro w1 g1
      refine ξ3E hap (fun cs b => hsel j o cs b ho) hQ (fun a' w' hk => ?_) (h w1 g1)
      obtain ⟨k1, k2, k3⟩ := hk
      have gr := k1 (ξ1J rest hok)
      exact ⟨fun _ => gr.mono (fun x hx => .inl hx), k2, ξ07 _ _ _ _ _ (fun x hx => by rcases hx with (hx | hx) | hx; exact .inl (.inl hx); exact .inr hx; exact .inl (.inr hx)) (ξ0d hi hsel hQ rest _ _ _ hok (gr.2 _ _ _ hU (hf.grow g1)) (fun hx => hx.elim hU (fun hx => by have hb : b < w1.heap.size := Nat.lt_of_lt_of_le hf.lt g1.size; omega)) k3)⟩
    ·rw [if_neg hw] at h ⊢
     rw [Act.put_comm a ((nw i).v b) undef h2]
     exact ξ0d hi hsel hQ rest _ _ _ hok hf hU h
theorem ξ3M (hBg : ∀ w w', B w → Gr w w' → B w') (hs : Region.noSelect ops = true) (hQ : ∀ c a d v w, Q (.panic c) (a.put d v) w → Q (.panic c) a w) (hQ' : ∀ c a d v w, Q (.panic c) a w → Q (.panic c) (a.put d v) w) :
  ∀ (n : Nat) (l : List (Nat × Nat)), l.length = n → ∀ (f : Nat) (listed : Array Bool) (U : Nat → Prop) (a : Act) (w : World), B w → ξB md ops listed → okN md ops f l listed = true →
   (∀ i, (i, 2) ∈ l → ξ0w P ops nw i a) → (hasAlloc l = true → ∀ b, U b → b < w.heap.size) → wpN P ops Q B nw l U a w → wpAnyB P md ops Q B n listed a w := by
 intro n
 induction n with
 | zero =>
  intro l hl f listed U a w hB hc hok hA hU h
  have : l = [] := List.eq_nil_of_length_eq_zero hl
  subst this
  cases f with
  | zero => simp [okN] at hok
  | succ f => exact ⟨by simpa [okN] using hok, h⟩
 | succ n ih =>
  intro l hl f listed U a w hB hc hok hA hU h
  match l, hl with
  | (i, k) :: rest, hl =>
  have hl' : rest.length = n := by simpa using hl
  cases f with
  | zero => simp [okN] at hok
  | succ f =>
  have h0 := h
  obtain ⟨o, ho, h⟩ := h
  unfold okN at hok
  simp only [Bool.and_eq_true, ho] at hok
  obtain ⟨⟨hr, hkeep⟩, hok⟩ := hok
  have hr' : i ∈ Region.ready md ops listed := by simpa using hr
  have hput : ∀ a u, (∀ i, (i, 2) ∈ rest → ξ0w P ops nw i a) → ∀ i, (i, 2) ∈ rest → ξ0w P ops nw i (a.put o.dst u) := fun a u hA i' hi' =>
   (hA i' hi').keep (Region.noSelect_spec hs) (fun oi hoi => ξ20 hkeep hoi hi') u
  have hA' : ∀ i, (i, 2) ∈ rest → ξ0w P ops nw i a := fun i hi => hA i (List.mem_cons_of_mem _ hi)
  by_cases hk1 : k = 1
  ·subst hk1
   have hU' : hasAlloc rest = true → ∀ b, U b → b < w.heap.size := fun hh => hU (by simp [hasAlloc, hh])
   rw [if_pos rfl, Bool.and_eq_true] at hok
   rw [if_neg (by omega)] at h
   by_cases hw : Region.wanted o (yielded ops a.tmps) = true
   ·rw [if_pos hw, if_pos rfl] at h
    obtain ⟨v, hv, h⟩ := h
    exact ξY ho (Region.noSelect_spec hs) hQ n listed a w hB hc (ξ0x ho hok.1) hr' (.inl ⟨hw, hv⟩) (ih rest hl' f _ U _ w hB (hc.set hr') hok.2 (hput _ _ hA') hU' h)
   ·rw [if_neg hw] at h
    exact ξY ho (Region.noSelect_spec hs) hQ n listed a w hB hc (ξ0x ho hok.1) hr' (.inr ⟨by simpa using hw, rfl⟩) (ih rest hl' f _ U _ w hB (hc.set hr') hok.2 (hput _ _ hA') hU' h)
  ·rw [if_neg hk1] at hok
   simp only [Bool.and_eq_true, List.all_eq_true] at hok
   obtain ⟨hok, hall⟩ := hok
   refine ⟨fun hn => (by rw [hn] at hr'; cases hr'), fun j hj => ?_⟩
   by_cases hji : j = i
   ·subst hji
    unfold bOp wpOp
    simp only [ho]
    by_cases hk : k = 2
    ·subst hk
     rw [if_pos rfl] at h
     obtain ⟨o', ho', hg, hrun⟩ := hA j List.mem_cons_self
     rw [ho] at ho'; cases ho'
     rw [if_pos (by simp [Region.wanted, hg])]
     refine .inl ?_
     unfold Oper.wp
     rw [hrun w]
     simp only [Oper.upon]
     have g1 : Gr w (w.alloc (.cells (nw j).Z (nw j).T)) := (Gr.refl w).alloc _
     refine ⟨hBg _ _ hB g1, ih rest hl' f _ _ _ _ (hBg _ _ hB g1) (hc.set hr') hok (hput _ _ hA') (fun hh b hb => ?_) (h _ _ g1 (ξo.new _ _ w) (fun hb => ?_))⟩
     ·rw [World.size_alloc]
      rcases hb with hb | hb
      ·have := hU (by simp [hasAlloc]) b hb; omega
      ·omega
     ·have := hU (by simp [hasAlloc]) _ hb; omega
    ·rw [if_neg hk] at h
     by_cases hw : Region.wanted o (yielded ops a.tmps) = true
     ·rw [if_pos hw, if_neg hk1] at h
      rw [if_pos hw]
      refine .inl (Oper.wp_mono (fun a' w' hkk => ⟨hkk.2.2.1, ?_⟩) (ξ7f (Y := fun a => ∀ i, (i, 2) ∈ rest → ξ0w P ops nw i a) hput (fun a d h => h) hA' (h w (Gr.refl w))))
      refine ih rest hl' f _ _ a' w' hkk.2.2.1 (hc.set hr') hok hkk.1 (fun hh b hb => ?_) hkk.2.2.2
      have gr := hkk.2.1 hh
      rcases hb with hb | hb
      ·exact Nat.lt_of_lt_of_le (hU (by simp [hasAlloc, hh]) b hb) gr.1
      ·exact hb.2
     ·rw [if_neg hw] at h
      rw [if_neg hw]
      exact ⟨hB, ih rest hl' f _ U _ w hB (hc.set hr') hok (hput _ _ hA') (fun hh => hU (by simp [hasAlloc, hh])) h⟩
   ·have hj2 := hall j hj
    simp only [Bool.or_eq_true, beq_iff_eq, hji, false_or, Bool.and_eq_true] at hj2
    obtain ⟨he, hokj⟩ := hj2
    cases hoj : ops[j]? with
    | none => simp [hoj] at he
    | some oj =>
     simp only [hoj, Bool.and_eq_true] at he
     obtain ⟨he, hkj⟩ := he
     have hhas := ξ1J _ he
     obtain ⟨o', ho', hg, hrun⟩ := hA j (ξ3u _ he)
     rw [hoj] at ho'; cases ho'
     unfold bOp wpOp
     simp only [hoj]
     rw [if_pos (by simp [Region.wanted, hg])]
     refine .inl ?_
     unfold Oper.wp
     rw [hrun w]
     simp only [Oper.upon]
     have g1 : Gr w (w.alloc (.cells (nw j).Z (nw j).T)) := (Gr.refl w).alloc _
     have hnU : ¬ U w.heap.size := fun hb => by have := hU hhas _ hb; omega
     have hE := ξ0d hoj (Region.noSelect_spec hs) hQ' _ U a _ he (ξo.new _ _ w) hnU (ξ1k _ U a w _ hhas g1 h0)
     have hlen := ξ2f _ he
     refine ⟨hBg _ _ hB g1, ih (eraseF j ((i, k) :: rest)) (by simp at hlen hl ⊢; omega) f _ _ _ _ (hBg _ _ hB g1) (hc.set hj) hokj (fun i' hi' => ?_) (fun _ b hb => ?_) hE⟩
     ·exact (hA i' (ξ2j _ _ hi')).keep (Region.noSelect_spec hs) (fun oi hoi => ξ20 hkj hoi hi') _
     ·rw [World.size_alloc]
      rcases hb with hb | hb
      ·have := hU hhas b hb; omega
      ·omega
theorem ξ2H (hBg : ∀ w w', B w → Gr w w' → B w') (hs : Region.noSelect ops = true) (hQ : ∀ c a d v w, Q (.panic c) (a.put d v) w → Q (.panic c) a w) (hQ' : ∀ c a d v w, Q (.panic c) a w → Q (.panic c) (a.put d v) w)
  (f : Nat) (l : List (Nat × Nat)) (U : Nat → Prop) (w : World) (hB : B w) (hU : ∀ b, U b → b < w.heap.size) :
  ∀ (rs : List Nat) (listed : Array Bool) (a : Act), ξB md ops listed → okR md ops f l rs listed = true → wpR P ops B (fun a => (∀ i, (i, 2) ∈ l → ξ0w P ops nw i a) ∧ wpN P ops Q B nw l U a w) rs a → wpAnyB P md ops Q B (l.length + rs.length) listed a w
 | [], listed, a, hc, hok, h => ξ3M hBg hs hQ hQ' _ l rfl f listed U a w hB hc hok h.1 (fun _ => hU) h.2
 | i :: rest, listed, a, hc, hok, h => by
  obtain ⟨o, ho, hw, v, hv, h⟩ := h
  unfold okR at hok
  simp only [Bool.and_eq_true] at hok
  obtain ⟨⟨hr, hf⟩, hok⟩ := hok
  have hr' : i ∈ Region.ready md ops listed := by simpa using hr
  exact ξY ho (Region.noSelect_spec hs) hQ _ listed a w hB hc (ξ0x ho hf) hr' (.inl ⟨hw, hv⟩) (ξ2H hBg hs hQ hQ' f l U w hB hU rest _ _ (hc.set hr') hok h)
theorem ξ0y {id : Nat} {a : Act} {w : World} (B : World → Prop) (hB0 : B w.drew) (hBg : ∀ w w', B w → Gr w w' → B w') (nw : Nat → NewS) (f : Nat) (reads : List Nat) (order : List (Nat × Nat)) (hm : P.follows .mixedOrders = true) (hs : Region.noSelect ops = true)
  (hn : order.length + reads.length = ops.size) (hB : okR .any ops f order reads (Array.replicate ops.size false) = true) (hQ : ∀ c a d v w, Q (.panic c) (a.put d v) w → Q (.panic c) a w) (hQ' : ∀ c a d v w, Q (.panic c) a w → Q (.panic c) (a.put d v) w)
  (h : wpR P ops B (fun a => (∀ i, (i, 2) ∈ order → ξ0w P ops nw i a) ∧ wpN P ops Q B nw order (fun b => b < w.heap.size) a w.drew) reads a) : (Code.region id ops true).wp P Q a w := by
 refine wp_region_any hm (ξ1b (B := B) _ _ _ _ ?_)
 have := ξ2H (md := .any) (nw := nw) hBg hs hQ hQ' f order (fun b => b < w.heap.size) w.drew hB0 (fun _ hb => hb) reads (Array.replicate ops.size false) a
  (fun j o _ hl => by simp [Array.getElem?_replicate] at hl; split at hl <;> simp at hl) hB h
 rw [hn] at this
 exact this
end
section steps
variable {P : Program} {ops : Array Oper} {Q : Exit → Act → World → Prop} {B : World → Prop} {nw : Nat → NewS} {U : Nat → Prop} {i : Nat} {rest : List (Nat × Nat)} {reads : List Nat} {a : Act} {w : World} {o : Oper} {KR : Act → Prop}
theorem ξ3j (h : Q .normal a w) : wpN P ops Q B nw [] U a w := h
theorem ξ3g (h : KR a) : wpR P ops B KR [] a := h
theorem ξ2O (ho : ops[i]? = some o) (hw : Region.wanted o (yielded ops a.tmps) = true) {v : Value} (hv : ∀ w', B w' → (execOp a.eval o).run P w' = .ok (.value v) w')
  (h : ∀ K : Act → Prop, (∀ a, wpR P ops B KR reads a → K a) → K (a.put o.dst v)) : wpR P ops B KR (i :: reads) a :=
 ⟨o, ho, hw, v, hv, h _ (fun _ h => h)⟩
theorem ξ15 (ho : ops[i]? = some o) (hw : Region.wanted o (yielded ops a.tmps) = true) {v : Value} (hv : ∀ w', B w' → (execOp a.eval o).run P w' = .ok (.value v) w')
  (h : ∀ K : Act → World → Prop, (∀ a w, wpN P ops Q B nw rest U a w → K a w) → K (a.put o.dst v) w) : wpN P ops Q B nw ((i, 1) :: rest) U a w :=
 ⟨o, ho, by rw [if_neg (by omega), if_pos hw, if_pos rfl]; exact ⟨v, hv, h _ (fun _ _ h => h)⟩⟩
theorem ξ0K (ho : ops[i]? = some o) (hw : Region.wanted o (yielded ops a.tmps) = true)
  (h : ∀ K : World → Act → World → Prop, (∀ w1 a w', wpN P ops Q B nw rest (fun x => U x ∨ (w1.heap.size ≤ x ∧ x < w'.heap.size)) a w' → K w1 a w') → ∀ w1, Gr w w1 → Oper.wp P o a w1 (fun a' w' => (hasAlloc rest = true → Slid U w1 w') ∧ B w' ∧ K w1 a' w') Q) : wpN P ops Q B nw ((i, 0) :: rest) U a w :=
 ⟨o, ho, by rw [if_neg (by omega), if_pos hw, if_neg (by omega)]; exact h (fun w1 a w' => wpN P ops Q B nw rest (fun x => U x ∨ (w1.heap.size ≤ x ∧ x < w'.heap.size)) a w') (fun _ _ _ h => h)⟩
theorem ξ0I (ho : ops[i]? = some o)
  (h : ∀ K : Act → World → Prop, ∀ w1 b, Gr w w1 → ξo (nw i).Z (nw i).T b w1 → ¬ U b → (∀ a w, wpN P ops Q B nw rest (fun x => U x ∨ x = b) a w → K a w) → K (a.put o.dst ((nw i).v b)) w1) : wpN P ops Q B nw ((i, 2) :: rest) U a w :=
 ⟨o, ho, by rw [if_pos rfl]; intro w1 b g f n; exact h _ w1 b g f n (fun _ _ h => h)⟩
end steps
end Go.Proofs.YtcjgimlcefhhmaaGreatDoor.LateS

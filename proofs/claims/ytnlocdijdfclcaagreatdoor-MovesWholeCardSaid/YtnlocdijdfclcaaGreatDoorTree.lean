/-
  A region that draws its order, walked by a tree: reads early; where two effects may come next, both ways.
  A region that draws its order and keeps an older world whole (its stores go into new variables alone): what the older world holds may be read at any time, also beside a store; where two effects may come next, both ways.
-/
import Derived.Test.YtnlocdijdfclcaaGreatDoorFast
namespace Go.Proofs.YtnlocdijdfclcaaGreatDoor
open Go.RowKit
set_option linter.unusedVariables false
set_option linter.unusedSimpArgs false

inductive Tr where
 | stop : Tr
 | read : Nat → Tr → Tr
 | one : Nat → Tr → Tr
 | two : Nat → Tr → Nat → Tr → Tr

def Tr.len : Tr → Nat
 | .stop => 0
 | .read _ t => t.len + 1
 | .one _ t => t.len + 1
 | .two _ t _ _ => t.len + 1

section region
variable {P : Program} {ops : Array Oper} {md : Region.Mode} {Q : Exit → Act → World → Prop}

def wpT (P : Program) (ops : Array Oper) (Q : Exit → Act → World → Prop) : Tr → Act → World → Prop
 | .stop, a, w => Q .normal a w
 | .read i t, a, w => ∃ o, ops[i]? = some o ∧
   if Region.wanted o (yielded ops a.tmps) = true then ∃ v, (∀ w', Gr w w' → (execOp a.eval o).run P w' = .ok (.value v) w') ∧ wpT P ops Q t (a.put o.dst v) w
   else wpT P ops Q t (a.put o.dst undef) w
 | .one i t, a, w => ∃ o, ops[i]? = some o ∧
   if Region.wanted o (yielded ops a.tmps) = true then Oper.wp P o a w (fun a' w' => relOf o w w' ∧ wpT P ops Q t a' w') Q
   else wpT P ops Q t (a.put o.dst undef) w
 | .two i t j u, a, w =>
   (∃ o, ops[i]? = some o ∧ if Region.wanted o (yielded ops a.tmps) = true then Oper.wp P o a w (fun a' w' => relOf o w w' ∧ wpT P ops Q t a' w') Q else wpT P ops Q t (a.put o.dst undef) w) ∧
   (∃ o, ops[j]? = some o ∧ if Region.wanted o (yielded ops a.tmps) = true then Oper.wp P o a w (fun a' w' => relOf o w w' ∧ wpT P ops Q u a' w') Q else wpT P ops Q u (a.put o.dst undef) w)

def readyM (md : Region.Mode) (os : List Oper) (L i : Nat) : Bool := match os[i]? with
 | none => false
 | some o => !tb L i && subM (predsM md o.after.toList) L
def treeB (md : Region.Mode) (ops : Array Oper) (os : List Oper) : Tr → Nat → Bool
 | .stop, L => onlyM md L L os 0
 | .read i t, L => match os[i]? with
  | none => false
  | some oi => readyM md os L i && (freeM ops oi (Nat.lor (Nat.lor L (Nat.pow 2 i)) (waitsM md (Nat.pow 2 i) os 0 0)) os 0 && treeB md ops os t (Nat.lor L (Nat.pow 2 i)))
 | .one i t, L => readyM md os L i && (onlyM md L (Nat.lor L (Nat.pow 2 i)) os 0 && treeB md ops os t (Nat.lor L (Nat.pow 2 i)))
 | .two i t j u, L => (readyM md os L i && readyM md os L j) && ((Nat.beq t.len u.len && onlyM md L (Nat.lor (Nat.lor L (Nat.pow 2 i)) (Nat.pow 2 j)) os 0) &&
   (treeB md ops os t (Nat.lor L (Nat.pow 2 i)) && treeB md ops os u (Nat.lor L (Nat.pow 2 j))))

theorem readyM_spec {L i : Nat} {listed : Array Bool} (hz : listed.size = ops.size) (hL : ∀ j, listed.getD j false = L.testBit j) (h : readyM md ops.toList L i = true) : i ∈ Region.ready md ops listed := by
 unfold readyM at h
 split at h
 ·cases h
 ·rename_i o ho
  simp only [Bool.and_eq_true, tb_eq] at h
  have ho' : ops[i]? = some o := by simpa using ho
  exact (ready_of hz hL ho').2 ⟨by simpa using h.1, h.2⟩

theorem wpAnyG_tree (hs : Region.noSelect ops = true) (hQ : ∀ c a d v w, Q (.panic c) (a.put d v) w → Q (.panic c) a w) :
  ∀ (t : Tr) (L : Nat) (listed : Array Bool) (a : Act) (w : World), listed.size = ops.size → (∀ j, listed.getD j false = L.testBit j) → Closed md ops listed → treeB md ops ops.toList t L = true → wpT P ops Q t a w → wpAnyG P md ops Q t.len listed a w := by
 have key : ∀ (i : Nat) (t : Tr) (L : Nat) (listed : Array Bool) (a : Act) (w : World), listed.size = ops.size → (∀ j, listed.getD j false = L.testBit j) → Closed md ops listed → i ∈ Region.ready md ops listed →
   (∀ a w, (listed.setIfInBounds i true).size = ops.size → (∀ j, (listed.setIfInBounds i true).getD j false = (Nat.lor L (Nat.pow 2 i)).testBit j) → Closed md ops (listed.setIfInBounds i true) → wpT P ops Q t a w → wpAnyG P md ops Q t.len (listed.setIfInBounds i true) a w) →
   (∃ o, ops[i]? = some o ∧ if Region.wanted o (yielded ops a.tmps) = true then Oper.wp P o a w (fun a' w' => relOf o w w' ∧ wpT P ops Q t a' w') Q else wpT P ops Q t (a.put o.dst undef) w) →
   gOp P ops Q i (wpAnyG P md ops Q t.len (listed.setIfInBounds i true)) a w := by
  intro i t L listed a w hz hL hc hr ih h
  obtain ⟨o, ho, h⟩ := h
  have hlt : i < listed.size := by rw [hz]; exact (Array.getElem?_eq_some_iff.1 ho).1
  have hz' : (listed.setIfInBounds i true).size = ops.size := by simpa using hz
  have hL' := set_bits hlt hL
  have hc' : Closed md ops (listed.setIfInBounds i true) := hc.set hr
  unfold gOp wpOp
  simp only [ho]
  by_cases hw : Region.wanted o (yielded ops a.tmps) = true
  ·rw [if_pos hw] at h
   rw [if_pos hw]
   refine .inl (Oper.wp_mono (fun a' w' hk => ⟨fun o' ho' => ?_, ih a' w' hz' hL' hc' hk.2⟩) h)
   cases ho'; exact hk.1
  ·rw [if_neg hw] at h
   rw [if_neg hw]
   exact ⟨fun _ _ => relOf.refl _ _, ih _ _ hz' hL' hc' h⟩
 intro t
 induction t with
 | stop =>
  intro L listed a w hz hL _ hB h
  refine ⟨?_, h⟩
  rw [List.eq_nil_iff_forall_not_mem]
  intro j hj
  obtain ⟨_, o, ho, _⟩ := mem_ready.1 hj
  have h1 := (ready_of hz hL ho).1 hj
  have h2 := onlyM_spec ops.toList 0 (by simp) hB j o (Nat.zero_le _) ho h1.1
  rw [h1.2] at h2
  cases h2
 | read i t ih =>
  intro L listed a w hz hL hc hB h
  obtain ⟨o, ho, h⟩ := h
  have hlt : i < listed.size := by rw [hz]; exact (Array.getElem?_eq_some_iff.1 ho).1
  have ho' : ops.toList[i]? = some o := by simpa using ho
  simp only [treeB, ho', Bool.and_eq_true] at hB
  obtain ⟨hr, hf, hB'⟩ := hB
  have hr' := readyM_spec hz hL hr
  have hz' : (listed.setIfInBounds i true).size = ops.size := by simpa using hz
  have hL' := set_bits hlt hL
  have hfree : ∀ j oj, ops[j]? = some oj → j ≠ i → listed.getD j true = false → ¬ Waits md ops i j → o.apart ops oj = true ∧ (isStore oj = false ∨ pureOp o = true) := fun j oj hj hne hun hno => by
   refine freeM_spec ops.toList 0 (by simp) hf j oj (Nat.zero_le _) hj ?_
   have hjl : j < listed.size := by rw [hz]; exact (Array.getElem?_eq_some_iff.1 hj).1
   have e : listed.getD j true = L.testBit j := by rw [← hL j]; simp [hjl]
   show ((L ||| 2 ^ i) ||| waitsM md (2 ^ i) ops.toList 0 0).testBit j = false
   rw [Nat.testBit_or, Nat.testBit_or, ← e, hun, Nat.testBit_two_pow]
   cases hwt : (waitsM md (2 ^ i) ops.toList 0 0).testBit j
   ·simp [Ne.symm hne]
   ·exact absurd (waitsM_spec (md := md) (ops := ops) (i := i) ops.toList 0 0 (by simp) (by simp) j hwt) hno
  by_cases hw : Region.wanted o (yielded ops a.tmps) = true
  ·rw [if_pos hw] at h
   obtain ⟨v, hv, h⟩ := h
   exact wpAnyG_first ho (Region.noSelect_spec hs) hQ t.len listed a w hc hfree hr' (.mk hw hv) (ih _ _ _ _ hz' hL' (hc.set hr') hB' h)
  ·rw [if_neg hw] at h
   exact wpAnyG_first ho (Region.noSelect_spec hs) hQ t.len listed a w hc hfree hr' (.inr ⟨by simpa using hw, rfl⟩) (ih _ _ _ _ hz' hL' (hc.set hr') hB' h)
 | one i t ih =>
  intro L listed a w hz hL hc hB h
  simp only [treeB, Bool.and_eq_true] at hB
  obtain ⟨hr, hf, hB'⟩ := hB
  have hr' := readyM_spec hz hL hr
  refine ⟨fun h0 => (by rw [h0] at hr'; cases hr'), fun j hj => ?_⟩
  obtain ⟨_, oj, hoj, _⟩ := mem_ready.1 hj
  have h1 := (ready_of hz hL hoj).1 hj
  have hji : j = i := by
   by_cases hji : j = i
   ·exact hji
   ·have h3 : (Nat.lor L (Nat.pow 2 i)).testBit j = false := by
     show (L ||| 2 ^ i).testBit j = false
     rw [Nat.testBit_or, h1.1, Nat.testBit_two_pow]
     simp [Ne.symm hji]
    have h2 := onlyM_spec ops.toList 0 (by simp) hf j oj (Nat.zero_le _) hoj h3
    rw [h1.2] at h2
    cases h2
  subst hji
  exact key j t L listed a w hz hL hc hj (fun a w h1 h2 h3 h4 => ih _ _ _ _ h1 h2 h3 hB' h4) h
 | two i t j u iht ihu =>
  intro L listed a w hz hL hc hB h
  simp only [treeB, Bool.and_eq_true] at hB
  obtain ⟨⟨hri, hrj⟩, ⟨hlen, hf⟩, hBt, hBu⟩ := hB
  have hri' := readyM_spec hz hL hri
  have hlen' : t.len = u.len := Nat.eq_of_beq_eq_true hlen
  refine ⟨fun h0 => (by rw [h0] at hri'; cases hri'), fun k hk => ?_⟩
  obtain ⟨_, ok, hok, _⟩ := mem_ready.1 hk
  have h1 := (ready_of hz hL hok).1 hk
  have hki : k = i ∨ k = j := by
   by_cases hki : k = i
   ·exact .inl hki
   ·by_cases hkj : k = j
    ·exact .inr hkj
    ·have h3 : (Nat.lor (Nat.lor L (Nat.pow 2 i)) (Nat.pow 2 j)).testBit k = false := by
      show ((L ||| 2 ^ i) ||| 2 ^ j).testBit k = false
      rw [Nat.testBit_or, Nat.testBit_or, h1.1, Nat.testBit_two_pow, Nat.testBit_two_pow]
      simp [Ne.symm hki, Ne.symm hkj]
     have h2 := onlyM_spec ops.toList 0 (by simp) hf k ok (Nat.zero_le _) hok h3
     rw [h1.2] at h2
     cases h2
  rcases hki with rfl | rfl
  ·exact key k t L listed a w hz hL hc hk (fun a w h1 h2 h3 h4 => iht _ _ _ _ h1 h2 h3 hBt h4) h.1
  ·show gOp P ops Q k (wpAnyG P md ops Q t.len (listed.setIfInBounds k true)) a w
   rw [hlen']
   exact key k u L listed a w hz hL hc hk (fun a w h1 h2 h3 h4 => ihu _ _ _ _ h1 h2 h3 hBu h4) h.2

theorem wp_region_tree {id : Nat} {a : Act} {w : World} (t : Tr) (hm : P.follows .mixedOrders = true) (hs : Region.noSelect ops = true)
  (hn : t.len = ops.size) (hB : treeB .any ops ops.toList t 0 = true) (hQ : ∀ c a d v w, Q (.panic c) (a.put d v) w → Q (.panic c) a w)
  (h : wpT P ops Q t a w.drew) : (Code.region id ops true).wp P Q a w := by
 refine wp_region_any hm (wpAny_of_G _ _ _ _ ?_)
 have := wpAnyG_tree (md := .any) hs hQ t 0 (Array.replicate ops.size false) a w.drew (by simp) (fun j => by
  rw [Nat.zero_testBit]
  by_cases hj : j < ops.size <;> simp [Array.getElem?_replicate, hj]) (fun j o _ hl => by simp [Array.getElem?_replicate] at hl; split at hl <;> simp at hl) hB h
 rw [hn] at this
 exact this
end region

section steps
variable {P : Program} {ops : Array Oper} {Q : Exit → Act → World → Prop} {i : Nat} {t : Tr} {a : Act} {w : World} {o : Oper}
theorem wpT_stop (h : Q .normal a w) : wpT P ops Q .stop a w := h
theorem wpT_readB {wb : World} (hb : Gr wb w) (ho : ops[i]? = some o) (hw : Region.wanted o (yielded ops a.tmps) = true) {v : Value} (hv : ∀ w', Gr wb w' → (execOp a.eval o).run P w' = .ok (.value v) w')
  (h : ∀ K : Act → World → Prop, (∀ a w, wpT P ops Q t a w → K a w) → K (a.put o.dst v) w) : wpT P ops Q (.read i t) a w :=
 ⟨o, ho, by rw [if_pos hw]; exact ⟨v, fun w' hg => hv w' (hb.trans hg), h _ (fun _ _ h => h)⟩⟩
theorem wpT_do (ho : ops[i]? = some o) (hw : Region.wanted o (yielded ops a.tmps) = true)
  (h : ∀ K : Act → World → Prop, (∀ a w, wpT P ops Q t a w → K a w) → Oper.wp P o a w (fun a' w' => relOf o w w' ∧ K a' w') Q) : wpT P ops Q (.one i t) a w :=
 ⟨o, ho, by rw [if_pos hw]; exact h _ (fun _ _ h => h)⟩
theorem wpT_two {j : Nat} {u : Tr} (h1 : wpT P ops Q (.one i t) a w) (h2 : wpT P ops Q (.one j u) a w) : wpT P ops Q (.two i t j u) a w := ⟨h1, h2⟩
theorem wpT_val {v : Value} {w' : World} (ho : ops[i]? = some o) (hw : Region.wanted o (yielded ops a.tmps) = true) (hx : (execOp a.eval o).run P w = .ok (.value v) w') (hg : Gr w w')
  (h : ∀ K : Act → World → Prop, (∀ a w, wpT P ops Q t a w → K a w) → K (a.put o.dst v) w') : wpT P ops Q (.one i t) a w := by
 refine wpT_do ho hw fun K hK => ?_
 unfold Oper.wp
 rw [hx]
 exact ⟨fun _ => hg, h K hK⟩
end steps
end Go.Proofs.YtnlocdijdfclcaaGreatDoor
namespace Go.Proofs.YtnlocdijdfclcaaGreatDoor
open Go.RowKit
set_option linter.unusedVariables false
set_option linter.unusedSimpArgs false

section region
variable {P : Program} {ops : Array Oper} {md : Region.Mode} {Q : Exit → Act → World → Prop} {B : World}

def bOp (P : Program) (ops : Array Oper) (Q : Exit → Act → World → Prop) (B : World) (i : Nat) (K : Act → World → Prop) (a : Act) (w : World) : Prop :=
 wpOp P ops Q i (fun a' w' => Gr B w' ∧ K a' w') a w

def wpAnyB (P : Program) (md : Region.Mode) (ops : Array Oper) (Q : Exit → Act → World → Prop) (B : World) : Nat → Array Bool → Act → World → Prop
 | 0, listed, a, w => Region.ready md ops listed = [] ∧ Q .normal a w
 | fuel + 1, listed, a, w =>
  (Region.ready md ops listed = [] → Q .normal a w) ∧
  ∀ i ∈ Region.ready md ops listed, bOp P ops Q B i (wpAnyB P md ops Q B fuel (listed.setIfInBounds i true)) a w

theorem wpAny_of_B : ∀ (fuel : Nat) (listed : Array Bool) (a : Act) (w : World), wpAnyB P md ops Q B fuel listed a w → wpAny P md ops Q fuel listed a w
 | 0, _, _, _, h => h
 | fuel + 1, _, _, _, h => ⟨h.1, fun i hi => wpOp_mono (fun a' w' hk => wpAny_of_B fuel _ a' w' hk.2) (h.2 i hi)⟩

def YieldsB (P : Program) (ops : Array Oper) (B : World) (o : Oper) (v : Value) (a : Act) : Prop :=
 (Region.wanted o (yielded ops a.tmps) = true ∧ ∀ w', Gr B w' → (execOp a.eval o).run P w' = .ok (.value v) w') ∨
 (Region.wanted o (yielded ops a.tmps) = false ∧ v = undef)

theorem YieldsB.of_same {o : Oper} {v : Value} {a a' : Act} (hy : YieldsB P ops B o v a) (he : execOp a'.eval o = execOp a.eval o)
  (hw : Region.wanted o (yielded ops a'.tmps) = Region.wanted o (yielded ops a.tmps)) : YieldsB P ops B o v a' := by
 unfold YieldsB at *
 rw [he, hw]
 exact hy

theorem YieldsB.bOp {i : Nat} {o : Oper} {v : Value} {a : Act} {w : World} (hi : ops[i]? = some o) (hB : Gr B w) (hy : YieldsB P ops B o v a)
  {K : Act → World → Prop} (h : K (a.put o.dst v) w) : bOp P ops Q B i K a w := by
 unfold Proofs.YtnlocdijdfclcaaGreatDoor.bOp wpOp
 simp only [hi]
 rcases hy with ⟨hw, hv⟩ | ⟨hw, rfl⟩
 ·simp only [hw, if_true, Oper.wp, hv w hB, Oper.upon]; exact .inl ⟨hB, h⟩
 ·simp only [hw, Bool.false_eq_true, if_false]; exact ⟨hB, h⟩

theorem bOp_put {j : Nat} {oi oj : Oper} {v : Value} (hj : ops[j]? = some oj) (hap : oi.apart ops oj = true)
  (hsi : ∀ cs b, oi.op ≠ .select cs b) (hsj : ∀ cs b, oj.op ≠ .select cs b)
  (hQ : ∀ c a d v w, Q (.panic c) (a.put d v) w → Q (.panic c) a w) {K : Act → World → Prop} {a : Act} {w : World}
  (hy : YieldsB P ops B oi v a) (h : bOp P ops Q B j K (a.put oi.dst v) w) :
  bOp P ops Q B j (fun a' w' => YieldsB P ops B oi v a' ∧ K (a'.put oi.dst v) w') a w := by
 obtain ⟨h1, h2, h3⟩ := Oper.apart_spec hap
 have keep : ∀ (a : Act), YieldsB P ops B oi v a → ∀ u, YieldsB P ops B oi v (a.put oj.dst u) := fun a hy u =>
  hy.of_same (execOp_put oi hsi a oj.dst u h3) (wanted_put oi a oj.dst u h3)
 have keepD : ∀ d, YieldsB P ops B oi v a → YieldsB P ops B oi v { a with defers := d :: a.defers } := fun d hy => hy.of_same rfl rfl
 unfold bOp wpOp at *
 simp only [hj] at *
 rw [wanted_put oj a oi.dst v h1] at h
 split
 ·rename_i hw
  simp only [hw, if_true] at h
  rcases h with h | ⟨hasks, hlets⟩
  case inr => exact .inr ⟨by unfold Oper.asks at *; rw [execOp_put oj hsj a oi.dst v h1] at hasks; exact hasks, hlets⟩
  refine .inl ?_
  unfold Oper.wp at *
  rw [execOp_put oj hsj a oi.dst v h1] at h
  generalize (execOp a.eval oj).run P w = r at *
  cases r with
  | ok n w' =>
   cases n <;> simp only [Oper.upon] at h ⊢
   case value u => exact ⟨h.1, keep a hy u, by rw [← Act.put_comm a v u h2]; exact h.2⟩
   case skip => exact ⟨h.1, keep a hy _, by rw [← Act.put_comm a v undef h2]; exact h.2⟩
   case defer d =>
    refine ⟨h.1, keep _ (keepD d hy) _, ?_⟩
    rw [← Act.put_comm _ v undef h2, ← Act.put_defers]
    exact h.2
   case enter f args =>
    refine Calls.mono h fun e w'' he => ?_
    cases e with
    | returned u => exact ⟨he.1, keep a hy u, by rw [← Act.put_comm a v u h2]; exact he.2⟩
    | panicked c => exact hQ _ _ _ _ _ he
    | outgrown => exact he
   case row row args => exact Rows.mono h fun u w'' he => ⟨he.1, keep a hy u, by rw [← Act.put_comm a v u h2]; exact he.2⟩
  | halt x w' =>
   cases x <;> simp only [Oper.upon] at h ⊢
   case panic u => exact hQ _ _ _ _ _ h
 ·rename_i hw
  simp only [hw] at h
  exact ⟨h.1, keep a (hy) _, by rw [← Act.put_comm a v undef h2]; exact h.2⟩

theorem bOp_mono {i : Nat} {a : Act} {w : World} {K K' : Act → World → Prop} (h : ∀ a w, Gr B w → K a w → K' a w)
  (hh : bOp P ops Q B i K a w) : bOp P ops Q B i K' a w := wpOp_mono (fun a w hk => ⟨hk.1, h a w hk.1 hk.2⟩) hh

theorem wpAnyB_first {i : Nat} {oi : Oper} {v : Value} (hi : ops[i]? = some oi) (hsel : ∀ (j : Nat) (o : Oper) cs b, ops[j]? = some o → o.op ≠ .select cs b)
  (hQ : ∀ c a d v w, Q (.panic c) (a.put d v) w → Q (.panic c) a w) :
  ∀ (fuel : Nat) (listed : Array Bool) (a : Act) (w : World), Gr B w → Closed md ops listed →
   (∀ j oj, ops[j]? = some oj → j ≠ i → listed.getD j true = false → ¬ Waits md ops i j → oi.apart ops oj = true) →
   i ∈ Region.ready md ops listed → YieldsB P ops B oi v a →
   wpAnyB P md ops Q B fuel (listed.setIfInBounds i true) (a.put oi.dst v) w → wpAnyB P md ops Q B (fuel + 1) listed a w := by
 intro fuel
 induction fuel with
 | zero =>
  intro listed a w hB _ _ hr hy H
  refine ⟨fun h => (by rw [h] at hr; cases hr), fun j hj => ?_⟩
  by_cases hji : j = i
  ·subst hji; exact hy.bOp hi hB H
  ·have := ready_mono hj hji
   rw [H.1] at this
   cases this
 | succ fuel ih =>
  intro listed a w hB hc hfree hr hy H
  refine ⟨fun h => (by rw [h] at hr; cases hr), fun j hj => ?_⟩
  by_cases hji : j = i
  ·subst hji; exact hy.bOp hi hB H
  ·have h1 := H.2 j (ready_mono hj hji)
   obtain ⟨hjun, oj, hoj, hall⟩ := mem_ready.1 hj
   have hap := hfree j oj hoj hji hjun (Waits.not_ready hc hr hj)
   have h2 := bOp_put hoj hap (fun cs b => hsel i oi cs b hi) (fun cs b => hsel j oj cs b hoj) hQ hy h1
   have hfree' : ∀ k ok, ops[k]? = some ok → k ≠ i → (listed.setIfInBounds j true).getD k true = false →
     ¬ Waits md ops i k → oi.apart ops ok = true := fun k ok hk hki hun hno => by
    refine hfree k ok hk hki ?_ hno
    by_cases hjk : j = k
    ·subst hjk; exact hjun
    ·rw [getD_set_ne true hjk] at hun; exact hun
   refine bOp_mono (fun a' w' hB' h3 => ih (listed.setIfInBounds j true) a' w' hB' (hc.set hj) hfree' (ready_mono hr (Ne.symm hji)) h3.1 ?_) h2
   rw [Array.setIfInBounds_comm _ _ hji]
   exact h3.2

def wpL (P : Program) (ops : Array Oper) (Q : Exit → Act → World → Prop) (B : World) : Tr → Act → World → Prop
 | .stop, a, w => Q .normal a w
 | .read i t, a, w => ∃ o, ops[i]? = some o ∧
   if Region.wanted o (yielded ops a.tmps) = true then ∃ v, (∀ w', Gr B w' → (execOp a.eval o).run P w' = .ok (.value v) w') ∧ wpL P ops Q B t (a.put o.dst v) w
   else wpL P ops Q B t (a.put o.dst undef) w
 | .one i t, a, w => ∃ o, ops[i]? = some o ∧
   if Region.wanted o (yielded ops a.tmps) = true then Oper.wp P o a w (fun a' w' => Gr B w' ∧ wpL P ops Q B t a' w') Q
   else wpL P ops Q B t (a.put o.dst undef) w
 | .two i t j u, a, w =>
   (∃ o, ops[i]? = some o ∧ if Region.wanted o (yielded ops a.tmps) = true then Oper.wp P o a w (fun a' w' => Gr B w' ∧ wpL P ops Q B t a' w') Q else wpL P ops Q B t (a.put o.dst undef) w) ∧
   (∃ o, ops[j]? = some o ∧ if Region.wanted o (yielded ops a.tmps) = true then Oper.wp P o a w (fun a' w' => Gr B w' ∧ wpL P ops Q B u a' w') Q else wpL P ops Q B u (a.put o.dst undef) w)

def freeL (ops : Array Oper) (oi : Oper) (skip : Nat) : List Oper → Nat → Bool
 | [], _ => true
 | o :: l, j => (tb skip j || oi.apart ops o) && freeL ops oi skip l (j + 1)
theorem freeL_spec {oi : Oper} {skip : Nat} : ∀ (l : List Oper) (k : Nat), (∀ j, l[j]? = ops[k + j]?) → freeL ops oi skip l k = true →
  ∀ j o, k ≤ j → ops[j]? = some o → skip.testBit j = false → oi.apart ops o = true
 | [], k, hl, _, j, o, hk, hj, _ => by
  have := hl (j - k)
  rw [show k + (j - k) = j by omega, hj] at this
  cases this
 | o' :: l, k, hl, h, j, o, hk, hj, hs => by
  unfold freeL at h
  rw [Bool.and_eq_true] at h
  by_cases hjk : j = k
  ·subst hjk
   have h0 : ops[j]? = some o' := by simpa using (hl 0).symm
   rw [h0] at hj
   cases hj
   have h1 := h.1
   rw [tb_eq, hs, Bool.false_or] at h1
   exact h1
  ·exact freeL_spec l (k + 1) (fun j => by have := hl (j + 1); simpa [Nat.add_assoc, Nat.add_comm 1 j] using this) h.2 j o (by omega) hj hs

def looseB (md : Region.Mode) (ops : Array Oper) (os : List Oper) : Tr → Nat → Bool
 | .stop, L => onlyM md L L os 0
 | .read i t, L => match os[i]? with
  | none => false
  | some oi => readyM md os L i && (freeL ops oi (Nat.lor (Nat.lor L (Nat.pow 2 i)) (waitsM md (Nat.pow 2 i) os 0 0)) os 0 && looseB md ops os t (Nat.lor L (Nat.pow 2 i)))
 | .one i t, L => readyM md os L i && (onlyM md L (Nat.lor L (Nat.pow 2 i)) os 0 && looseB md ops os t (Nat.lor L (Nat.pow 2 i)))
 | .two i t j u, L => (readyM md os L i && readyM md os L j) && ((Nat.beq t.len u.len && onlyM md L (Nat.lor (Nat.lor L (Nat.pow 2 i)) (Nat.pow 2 j)) os 0) &&
   (looseB md ops os t (Nat.lor L (Nat.pow 2 i)) && looseB md ops os u (Nat.lor L (Nat.pow 2 j))))

theorem wpAnyB_loose (hs : Region.noSelect ops = true) (hQ : ∀ c a d v w, Q (.panic c) (a.put d v) w → Q (.panic c) a w) :
  ∀ (t : Tr) (L : Nat) (listed : Array Bool) (a : Act) (w : World), Gr B w → listed.size = ops.size → (∀ j, listed.getD j false = L.testBit j) → Closed md ops listed → looseB md ops ops.toList t L = true → wpL P ops Q B t a w → wpAnyB P md ops Q B t.len listed a w := by
 have key : ∀ (i : Nat) (t : Tr) (L : Nat) (listed : Array Bool) (a : Act) (w : World), Gr B w → listed.size = ops.size → (∀ j, listed.getD j false = L.testBit j) → Closed md ops listed → i ∈ Region.ready md ops listed →
   (∀ a w, Gr B w → (listed.setIfInBounds i true).size = ops.size → (∀ j, (listed.setIfInBounds i true).getD j false = (Nat.lor L (Nat.pow 2 i)).testBit j) → Closed md ops (listed.setIfInBounds i true) → wpL P ops Q B t a w → wpAnyB P md ops Q B t.len (listed.setIfInBounds i true) a w) →
   (∃ o, ops[i]? = some o ∧ if Region.wanted o (yielded ops a.tmps) = true then Oper.wp P o a w (fun a' w' => Gr B w' ∧ wpL P ops Q B t a' w') Q else wpL P ops Q B t (a.put o.dst undef) w) →
   bOp P ops Q B i (wpAnyB P md ops Q B t.len (listed.setIfInBounds i true)) a w := by
  intro i t L listed a w hB hz hL hc hr ih h
  obtain ⟨o, ho, h⟩ := h
  have hlt : i < listed.size := by rw [hz]; exact (Array.getElem?_eq_some_iff.1 ho).1
  have hz' : (listed.setIfInBounds i true).size = ops.size := by simpa using hz
  have hL' := set_bits hlt hL
  have hc' : Closed md ops (listed.setIfInBounds i true) := hc.set hr
  unfold bOp wpOp
  simp only [ho]
  by_cases hw : Region.wanted o (yielded ops a.tmps) = true
  ·rw [if_pos hw] at h
   rw [if_pos hw]
   exact .inl (Oper.wp_mono (fun a' w' hk => ⟨hk.1, ih a' w' hk.1 hz' hL' hc' hk.2⟩) h)
  ·rw [if_neg hw] at h
   rw [if_neg hw]
   exact ⟨hB, ih _ _ hB hz' hL' hc' h⟩
 intro t
 induction t with
 | stop =>
  intro L listed a w hB hz hL _ hF h
  refine ⟨?_, h⟩
  rw [List.eq_nil_iff_forall_not_mem]
  intro j hj
  obtain ⟨_, o, ho, _⟩ := mem_ready.1 hj
  have h1 := (ready_of hz hL ho).1 hj
  have h2 := onlyM_spec ops.toList 0 (by simp) hF j o (Nat.zero_le _) ho h1.1
  rw [h1.2] at h2
  cases h2
 | read i t ih =>
  intro L listed a w hB hz hL hc hF h
  obtain ⟨o, ho, h⟩ := h
  have hlt : i < listed.size := by rw [hz]; exact (Array.getElem?_eq_some_iff.1 ho).1
  have ho' : ops.toList[i]? = some o := by simpa using ho
  simp only [looseB, ho', Bool.and_eq_true] at hF
  obtain ⟨hr, hf, hF'⟩ := hF
  have hr' := readyM_spec hz hL hr
  have hz' : (listed.setIfInBounds i true).size = ops.size := by simpa using hz
  have hL' := set_bits hlt hL
  have hfree : ∀ j oj, ops[j]? = some oj → j ≠ i → listed.getD j true = false → ¬ Waits md ops i j → o.apart ops oj = true := fun j oj hj hne hun hno => by
   refine freeL_spec ops.toList 0 (by simp) hf j oj (Nat.zero_le _) hj ?_
   have hjl : j < listed.size := by rw [hz]; exact (Array.getElem?_eq_some_iff.1 hj).1
   have e : listed.getD j true = L.testBit j := by rw [← hL j]; simp [hjl]
   show ((L ||| 2 ^ i) ||| waitsM md (2 ^ i) ops.toList 0 0).testBit j = false
   rw [Nat.testBit_or, Nat.testBit_or, ← e, hun, Nat.testBit_two_pow]
   cases hwt : (waitsM md (2 ^ i) ops.toList 0 0).testBit j
   ·simp [Ne.symm hne]
   ·exact absurd (waitsM_spec (md := md) (ops := ops) (i := i) ops.toList 0 0 (by simp) (by simp) j hwt) hno
  by_cases hw : Region.wanted o (yielded ops a.tmps) = true
  ·rw [if_pos hw] at h
   obtain ⟨v, hv, h⟩ := h
   exact wpAnyB_first ho (Region.noSelect_spec hs) hQ t.len listed a w hB hc hfree hr' (.inl ⟨hw, hv⟩) (ih _ _ _ _ hB hz' hL' (hc.set hr') hF' h)
  ·rw [if_neg hw] at h
   exact wpAnyB_first ho (Region.noSelect_spec hs) hQ t.len listed a w hB hc hfree hr' (.inr ⟨by simpa using hw, rfl⟩) (ih _ _ _ _ hB hz' hL' (hc.set hr') hF' h)
 | one i t ih =>
  intro L listed a w hB hz hL hc hF h
  simp only [looseB, Bool.and_eq_true] at hF
  obtain ⟨hr, hf, hF'⟩ := hF
  have hr' := readyM_spec hz hL hr
  refine ⟨fun h0 => (by rw [h0] at hr'; cases hr'), fun j hj => ?_⟩
  obtain ⟨_, oj, hoj, _⟩ := mem_ready.1 hj
  have h1 := (ready_of hz hL hoj).1 hj
  have hji : j = i := by
   by_cases hji : j = i
   ·exact hji
   ·have h3 : (Nat.lor L (Nat.pow 2 i)).testBit j = false := by
     show (L ||| 2 ^ i).testBit j = false
     rw [Nat.testBit_or, h1.1, Nat.testBit_two_pow]
     simp [Ne.symm hji]
    have h2 := onlyM_spec ops.toList 0 (by simp) hf j oj (Nat.zero_le _) hoj h3
    rw [h1.2] at h2
    cases h2
  subst hji
  exact key j t L listed a w hB hz hL hc hj (fun a w hB h1 h2 h3 h4 => ih _ _ _ _ hB h1 h2 h3 hF' h4) h
 | two i t j u iht ihu =>
  intro L listed a w hB hz hL hc hF h
  simp only [looseB, Bool.and_eq_true] at hF
  obtain ⟨⟨hri, hrj⟩, ⟨hlen, hf⟩, hBt, hBu⟩ := hF
  have hri' := readyM_spec hz hL hri
  have hlen' : t.len = u.len := Nat.eq_of_beq_eq_true hlen
  refine ⟨fun h0 => (by rw [h0] at hri'; cases hri'), fun k hk => ?_⟩
  obtain ⟨_, ok, hok, _⟩ := mem_ready.1 hk
  have h1 := (ready_of hz hL hok).1 hk
  have hki : k = i ∨ k = j := by
   by_cases hki : k = i
   ·exact .inl hki
   ·by_cases hkj : k = j
    ·exact .inr hkj
    ·have h3 : (Nat.lor (Nat.lor L (Nat.pow 2 i)) (Nat.pow 2 j)).testBit k = false := by
      show ((L ||| 2 ^ i) ||| 2 ^ j).testBit k = false
      rw [Nat.testBit_or, Nat.testBit_or, h1.1, Nat.testBit_two_pow, Nat.testBit_two_pow]
      simp [Ne.symm hki, Ne.symm hkj]
     have h2 := onlyM_spec ops.toList 0 (by simp) hf k ok (Nat.zero_le _) hok h3
     rw [h1.2] at h2
     cases h2
  rcases hki with rfl | rfl
  ·exact key k t L listed a w hB hz hL hc hk (fun a w hB h1 h2 h3 h4 => iht _ _ _ _ hB h1 h2 h3 hBt h4) h.1
  ·show bOp P ops Q B k (wpAnyB P md ops Q B t.len (listed.setIfInBounds k true)) a w
   rw [hlen']
   exact key k u L listed a w hB hz hL hc hk (fun a w hB h1 h2 h3 h4 => ihu _ _ _ _ hB h1 h2 h3 hBu h4) h.2

theorem wp_region_loose {id : Nat} {a : Act} {w : World} (B : World) (t : Tr) (hB : Gr B w) (hm : P.follows .mixedOrders = true) (hs : Region.noSelect ops = true)
  (hn : t.len = ops.size) (hF : looseB .any ops ops.toList t 0 = true) (hQ : ∀ c a d v w, Q (.panic c) (a.put d v) w → Q (.panic c) a w)
  (h : wpL P ops Q B t a w.drew) : (Code.region id ops true).wp P Q a w := by
 refine wp_region_any hm (wpAny_of_B _ _ _ _ (B := B) ?_)
 have := wpAnyB_loose (md := .any) hs hQ t 0 (Array.replicate ops.size false) a w.drew hB.drew (by simp) (fun j => by
  rw [Nat.zero_testBit]
  by_cases hj : j < ops.size <;> simp [Array.getElem?_replicate, hj]) (fun j o _ hl => by simp [Array.getElem?_replicate] at hl; split at hl <;> simp at hl) hF h
 rw [hn] at this
 exact this
end region

section steps
variable {P : Program} {ops : Array Oper} {Q : Exit → Act → World → Prop} {i : Nat} {t : Tr} {a : Act} {w B : World} {o : Oper}
theorem wpL_stop (h : Q .normal a w) : wpL P ops Q B .stop a w := h
theorem wpL_read (ho : ops[i]? = some o) (hw : Region.wanted o (yielded ops a.tmps) = true) {v : Value} (hv : ∀ w', Gr B w' → (execOp a.eval o).run P w' = .ok (.value v) w')
  (h : ∀ K : Act → World → Prop, (∀ a w, wpL P ops Q B t a w → K a w) → K (a.put o.dst v) w) : wpL P ops Q B (.read i t) a w :=
 ⟨o, ho, by rw [if_pos hw]; exact ⟨v, hv, h _ (fun _ _ h => h)⟩⟩
theorem wpL_do (ho : ops[i]? = some o) (hw : Region.wanted o (yielded ops a.tmps) = true)
  (h : ∀ K : Act → World → Prop, (∀ a w, wpL P ops Q B t a w → K a w) → Oper.wp P o a w (fun a' w' => Gr B w' ∧ K a' w') Q) : wpL P ops Q B (.one i t) a w :=
 ⟨o, ho, by rw [if_pos hw]; exact h _ (fun _ _ h => h)⟩
theorem wpL_two {j : Nat} {u : Tr} (h1 : wpL P ops Q B (.one i t) a w) (h2 : wpL P ops Q B (.one j u) a w) : wpL P ops Q B (.two i t j u) a w := ⟨h1, h2⟩
theorem wpL_val {v : Value} {w' : World} (ho : ops[i]? = some o) (hw : Region.wanted o (yielded ops a.tmps) = true) (hx : (execOp a.eval o).run P w = .ok (.value v) w') (hg : Gr B w')
  (h : ∀ K : Act → World → Prop, (∀ a w, wpL P ops Q B t a w → K a w) → K (a.put o.dst v) w') : wpL P ops Q B (.one i t) a w := by
 refine wpL_do ho hw fun K hK => ?_
 unfold Oper.wp
 rw [hx]
 exact ⟨hg, h K hK⟩
end steps
end Go.Proofs.YtnlocdijdfclcaaGreatDoor

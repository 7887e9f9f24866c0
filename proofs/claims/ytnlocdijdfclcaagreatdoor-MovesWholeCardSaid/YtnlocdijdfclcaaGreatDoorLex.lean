/-
 Tokens of the scenario language: plain laws (no program in sight).
-/
import Derived.Test.YtnlocdijdfclcaaGreatDoorBase
import Derived.Lib.LastIndexByte
namespace Go.Proofs.YtnlocdijdfclcaaGreatDoor.Lex
set_option linter.unusedVariables false
set_option linter.unusedSimpArgs false

structure Tok where
 kind : Nat
 text : List UInt8
 num : Nat
 pos : Nat

def isBl (b : UInt8) : Bool := b == 32 || b == 9 || b == 10 || b == 13
def isLo (b : UInt8) : Bool := decide (97 ≤ b.toNat) && decide (b.toNat ≤ 122)
def isDi (b : UInt8) : Bool := decide (48 ≤ b.toNat) && decide (b.toNat ≤ 57)
def isWd (b : UInt8) : Bool := isLo b || isDi b || b == 95

def skipL : Bool → List UInt8 → Nat
 | _, [] => 0
 | true, b :: bs => skipL (b != 10) bs + 1
 | false, b :: bs => if b == 35 then skipL true bs + 1 else if isBl b then skipL false bs + 1 else 0

def numV (bs : List UInt8) : Nat := bs.foldl (fun a c => 10 * a + (c.toNat - 48)) 0
def keywords : List (List UInt8) := [[97, 108, 119, 97, 121, 115], [98, 101, 102, 111, 114, 101], [98, 121], [99, 97, 112, 97, 99, 105, 116, 121], [100, 97, 114, 107], [100, 105, 115, 116, 117, 114, 98], [102, 97, 105, 108, 117, 114, 101, 115], [102, 101, 101, 100], [103, 114, 111, 117, 112], [105, 110], [106, 111, 98], [107, 101, 101, 112], [108, 105, 110, 107], [108, 111, 97, 100], [109, 97, 99, 104, 105, 110, 101], [111, 110], [111, 110, 108, 121], [111, 114, 100, 101, 114], [112, 111, 111, 108], [113, 117, 111, 114, 117, 109], [114, 97, 99, 107], [114, 101, 115, 101, 114, 118, 101], [115, 104, 97, 114, 101], [115, 105, 108, 101, 110, 99, 101], [115, 105, 116, 101], [115, 105, 122, 101], [115, 108, 111, 116, 115], [115, 112, 114, 101, 97, 100]]
def nextBad (bs : List UInt8) : Bool := match bs with
 | [] => false
 | b :: _ => isLo b || b == 95

def tokL (bs : List UInt8) : Except Nat Tok :=
 match bs with
 | [] => .error 3
 | b :: r =>
  if isLo b then
   let t := (b :: r).takeWhile isWd
   if 31 < t.length then .error 8 else .ok ⟨if keywords.contains t then 2 else 1, t, 0, 0⟩
  else if isDi b then
   let t := (b :: r).takeWhile isDi
   if (decide (1 < t.length) && b == 48) || nextBad ((b :: r).drop t.length) then .error 3
   else if 1048576 < numV t then .error 2 else .ok ⟨3, t, numV t, 0⟩
  else if b == 59 || b == 44 then .ok ⟨4, [b], 0, 0⟩ else .error 3

theorem takeWhile_pre (p : UInt8 → Bool) : ∀ bs : List UInt8, bs.takeWhile p ++ bs.drop (bs.takeWhile p).length = bs
 | [] => rfl
 | b :: bs => by
  have ih := takeWhile_pre p bs
  by_cases h : p b = true
  ·simp [List.takeWhile, h, ih]
  ·simp [List.takeWhile, h]

theorem tokL_text {bs : List UInt8} {t : Tok} (h : tokL bs = .ok t) : 1 ≤ t.text.length ∧ bs = t.text ++ bs.drop t.text.length := by
 cases bs with
 | nil => simp [tokL] at h
 | cons b r =>
  unfold tokL at h
  by_cases h1 : isLo b = true
  ·simp only [h1, if_true] at h
   split at h
   ·cases h
   ·cases h
    have hw : isWd b = true := by unfold isWd; rw [h1]; rfl
    refine ⟨by simp [List.takeWhile, hw], (takeWhile_pre isWd (b :: r)).symm⟩
  ·by_cases h2 : isDi b = true
   ·simp only [h1, h2, if_true, Bool.false_eq_true, if_false] at h
    split at h
    ·cases h
    ·split at h
     ·cases h
     ·cases h
      refine ⟨by simp [List.takeWhile, h2], (takeWhile_pre isDi (b :: r)).symm⟩
   ·simp only [h1, h2, Bool.false_eq_true, if_false] at h
    split at h
    ·cases h; simp
    ·cases h

def skipS : Bool → List UInt8 → Option Bool
 | c, [] => some c
 | true, b :: bs => skipS (b != 10) bs
 | false, b :: bs => if b == 35 then skipS true bs else if isBl b then skipS false bs else none
theorem skipL_app : ∀ (c : Bool) (a v : List UInt8), skipL c (a ++ v) = match skipS c a with
  | some c' => a.length + skipL c' v
  | none => skipL c a
 | c, [], v => by simp [skipS]
 | true, b :: a, v => by
  have ih := skipL_app (b != 10) a v
  show skipL (b != 10) (a ++ v) + 1 = _
  rw [ih]
  show _ = match skipS (b != 10) a with
   | some c' => (b :: a).length + skipL c' v
   | none => skipL true (b :: a)
  cases skipS (b != 10) a with
  | none => rfl
  | some c' => simp; omega
 | false, b :: a, v => by
  have i1 := skipL_app true a v
  have i2 := skipL_app false a v
  show (if b == 35 then skipL true (a ++ v) + 1 else if isBl b then skipL false (a ++ v) + 1 else 0) = _
  rw [i1, i2]
  show _ = match (if b == 35 then skipS true a else if isBl b then skipS false a else none) with
   | some c' => (b :: a).length + skipL c' v
   | none => (if b == 35 then skipL true a + 1 else if isBl b then skipL false a + 1 else 0)
  by_cases h1 : (b == 35) = true
  ·simp only [h1, if_true]
   cases skipS true a with
   | none => rfl
   | some c' => simp; omega
  ·simp only [h1, if_false, Bool.false_eq_true]
   by_cases h2 : isBl b = true
   ·simp only [h2, if_true]
    cases skipS false a with
    | none => rfl
    | some c' => simp; omega
   ·simp [h2]
theorem skipS_none : ∀ (c : Bool) (a : List UInt8), skipS c a = none → skipL c a < a.length
 | c, [], h => by simp [skipS] at h
 | true, b :: a, h => by
  have := skipS_none (b != 10) a h
  show skipL (b != 10) a + 1 < _
  simp; omega
 | false, b :: a, h => by
  have h' : (if b == 35 then skipS true a else if isBl b then skipS false a else none) = none := h
  show (if b == 35 then skipL true a + 1 else if isBl b then skipL false a + 1 else 0) < _
  by_cases h1 : (b == 35) = true
  ·simp only [h1, if_true] at h' ⊢
   have := skipS_none true a h'
   simp; omega
  ·simp only [h1, if_false, Bool.false_eq_true] at h' ⊢
   by_cases h2 : isBl b = true
   ·simp only [h2, if_true] at h' ⊢
    have := skipS_none false a h'
    simp; omega
   ·simp [h2]
theorem skipS_some {c : Bool} {a : List UInt8} (h : skipL c a = a.length) : ∃ c', skipS c a = some c' := by
 cases h2 : skipS c a with
 | some c' => exact ⟨c', rfl⟩
 | none => have := skipS_none c a h2; omega
theorem skipL_some {c c' : Bool} {a : List UInt8} (h : skipS c a = some c') : skipL c a = a.length := by
 have := skipL_app c a []
 rw [h, List.append_nil] at this
 rw [this]; simp [skipL]
def StopP (p : UInt8 → Bool) : List UInt8 → Prop
 | [] => True
 | b :: _ => p b = false
def NonW : List UInt8 → Prop
 | [] => True
 | b :: _ => isWd b = false
theorem takeWhile_app {p : UInt8 → Bool} : ∀ {t r : List UInt8}, (t ++ r).takeWhile p = t → (∀ c ∈ t, p c = true) ∧ StopP p r
 | [], [], _ => ⟨fun c h => (by cases h), trivial⟩
 | [], b :: r, h => by
  refine ⟨fun c h => (by cases h), ?_⟩
  by_cases hb : p b = true
  ·simp [hb] at h
  ·show p b = false; simpa using hb
 | a :: t, r, h => by
  by_cases ha : p a = true
  ·simp only [List.cons_append, List.takeWhile, ha, List.cons.injEq, true_and] at h
   obtain ⟨h1, h2⟩ := takeWhile_app h
   exact ⟨fun c hc => by rcases List.mem_cons.1 hc with rfl | hc; exact ha; exact h1 c hc, h2⟩
  ·simp [ha] at h
theorem takeWhile_new {p : UInt8 → Bool} : ∀ {t r : List UInt8}, (∀ c ∈ t, p c = true) → StopP p r → (t ++ r).takeWhile p = t
 | [], [], _, _ => rfl
 | [], b :: r, _, h => by have h : p b = false := h; simp [h]
 | a :: t, r, h, h2 => by
  have ha := h a List.mem_cons_self
  simp only [List.cons_append, List.takeWhile, ha]
  rw [takeWhile_new (fun c hc => h c (List.mem_cons_of_mem _ hc)) h2]
theorem nonW_bad {r : List UInt8} (h : NonW r) : nextBad r = false := by
 cases r with
 | nil => rfl
 | cons b r => unfold NonW isWd at h; simp at h; unfold nextBad; simp [h.1.1, h.2]
def Like (r r' : List UInt8) : Prop := NonW r' ∨ ∃ c q q', r = c :: q ∧ r' = c :: q'
theorem Like.stop {r r' : List UInt8} {p : UInt8 → Bool} (h : Like r r') (hp : ∀ c, p c = true → isWd c = true) (hr : StopP p r) : StopP p r' := by
 rcases h with h | ⟨c, q, q', rfl, rfl⟩
 ·cases r' with
  | nil => trivial
  | cons b r =>
   have h : isWd b = false := h
   show p b = false
   cases hb : p b with
   | false => rfl
   | true => rw [hp b hb] at h; cases h
 ·exact hr
theorem Like.bad {r r' : List UInt8} (h : Like r r') (hr : nextBad r = false) : nextBad r' = false := by
 rcases h with h | ⟨c, q, q', rfl, rfl⟩
 ·exact nonW_bad h
 ·exact hr
theorem tokL_new {t : List UInt8} {x : Tok} {r r' : List UInt8} (h : tokL (t ++ r) = .ok x) (ht : x.text = t) (hr : Like r r') : tokL (t ++ r') = .ok x := by
 cases t with
 | nil =>
  have := (tokL_text h).1
  rw [ht] at this
  simp at this
 | cons b t =>
  simp only [List.cons_append] at h ⊢
  unfold tokL at h ⊢
  by_cases h1 : isLo b = true
  ·simp only [h1, if_true] at h ⊢
   have e : (b :: (t ++ r)).takeWhile isWd = b :: t := by
    split at h
    ·cases h
    ·cases h; exact ht
   rw [e] at h
   have e1 := takeWhile_app (t := b :: t) e
   have e2 : (b :: (t ++ r')).takeWhile isWd = b :: t := takeWhile_new (t := b :: t) e1.1 (hr.stop (fun _ h => h) e1.2)
   rw [e2]; exact h
  ·by_cases h2 : isDi b = true
   ·simp only [h1, h2, if_true, Bool.false_eq_true, if_false] at h ⊢
    have e : (b :: (t ++ r)).takeWhile isDi = b :: t := by
     split at h
     ·cases h
     ·split at h
      ·cases h
      ·cases h; exact ht
    rw [e] at h
    have e1 := takeWhile_app (t := b :: t) e
    have e2 : (b :: (t ++ r')).takeWhile isDi = b :: t := takeWhile_new (t := b :: t) e1.1 (hr.stop (fun c hc => by unfold isWd; rw [hc]; simp) e1.2)
    rw [e2]
    have d1 : (b :: (t ++ r)).drop (b :: t).length = r := by simp
    have d2 : (b :: (t ++ r')).drop (b :: t).length = r' := by simp
    rw [d1] at h
    rw [d2]
    split at h
    ·cases h
    ·rename_i hc
     simp only [Bool.or_eq_true, not_or, Bool.not_eq_true] at hc
     rw [hr.bad hc.2, hc.1]
     simpa using h
   ·simp only [h1, h2, Bool.false_eq_true, if_false] at h ⊢
    exact h

inductive Cov : Nat → List UInt8 → List Tok → Prop
 | stop (p : Nat) (a : List UInt8) (h : skipL false a = a.length) : Cov p a [⟨0, [], 0, p + a.length⟩]
 | tok (p : Nat) (a : List UInt8) (x : Tok) (r : List UInt8) (l : List Tok) (h : skipS false a = some false) (hp : x.pos = p + a.length) (y : Tok) (ht : tokL (x.text ++ r) = .ok y) (hy : y.text = x.text) (hk : y.kind = x.kind) (hn : y.num = x.num)
   (hl : Cov (p + a.length + x.text.length) r l) : Cov p (a ++ (x.text ++ r)) (x :: l)
theorem skipS_app : ∀ (c : Bool) (a b : List UInt8), skipS c (a ++ b) = match skipS c a with
  | some c' => skipS c' b
  | none => none
 | c, [], b => by simp [skipS]
 | true, x :: a, b => skipS_app (x != 10) a b
 | false, x :: a, b => by
  have i1 := skipS_app true a b
  have i2 := skipS_app false a b
  show (if x == 35 then skipS true (a ++ b) else if isBl x then skipS false (a ++ b) else none) = match (if x == 35 then skipS true a else if isBl x then skipS false a else none) with
   | some c' => skipS c' b
   | none => none
  rw [i1, i2]
  by_cases h1 : (x == 35) = true
  ·simp only [h1, if_true]
  ·by_cases h2 : isBl x = true
   ·simp only [h1, h2, if_true, if_false, Bool.false_eq_true]
   ·simp [h1, h2]

def shift (d : Nat) (x : Tok) : Tok := ⟨x.kind, x.text, x.num, x.pos + d⟩
theorem Cov.shift {p : Nat} {bs : List UInt8} {l : List Tok} (h : Cov p bs l) (d : Nat) : Cov (p + d) bs (l.map (shift d)) := by
 induction h with
 | stop p a h =>
  have := Cov.stop (p + d) a h
  rw [show p + d + a.length = p + a.length + d by omega] at this
  exact this
 | tok p a x r l h hp y ht hy hk hn hl ih =>
  refine Cov.tok (p + d) a (Lex.shift d x) r _ h ?_ y ht hy hk hn ?_
  ·show x.pos + d = _; omega
  ·rw [show p + d + a.length + (Lex.shift d x).text.length = p + a.length + x.text.length + d by show p + d + a.length + x.text.length = _; omega]
   exact ih
theorem Cov.pos {p : Nat} {bs : List UInt8} {l : List Tok} (h : Cov p bs l) : ∀ x ∈ l, p ≤ x.pos ∧ x.pos + x.text.length ≤ p + bs.length := by
 induction h with
 | stop p a h =>
  intro x hx
  simp at hx
  subst hx
  simp
 | tok p a x r l h hp y ht hy hk hn hl ih =>
  intro z hz
  rcases List.mem_cons.1 hz with rfl | hz
  ·simp; omega
  ·have := ih z hz
   simp; omega
theorem Cov.insert {p : Nat} {bs : List UInt8} {l : List Tok} (h : Cov p bs l) {more : List UInt8} (hm : ∀ c, skipS c more = some false) (hw : NonW more) (hne : more ≠ []) :
  ∀ (i : Nat) (x : Tok) (u v : List UInt8), l[i]? = some x → bs = u ++ v → p + u.length = x.pos → Cov p (u ++ (more ++ v)) (l.take i ++ (l.drop i).map (Lex.shift more.length)) := by
 induction h with
 | stop p a h =>
  intro i x u v hx hb hu
  cases i with
  | succ i => simp at hx
  | zero =>
   simp at hx
   subst hx
   have hu' : u.length = a.length := by simpa using hu
   have hv : v = [] := by
    have := congrArg List.length hb
    simp at this
    exact List.eq_nil_of_length_eq_zero (by omega)
   subst hv
   rw [List.append_nil] at hb
   subst hb
   obtain ⟨c', hc⟩ := skipS_some h
   have h1 : skipL false (a ++ more) = (a ++ more).length := by
    refine skipL_some (c' := false) ?_
    rw [skipS_app, hc]; exact hm c'
   have := Cov.stop p (a ++ more) h1
   simp only [List.append_nil]
   rw [List.length_append] at this
   simpa [Lex.shift, Nat.add_assoc] using this
 | tok p a y r l h hp z ht hy hk hn hl ih =>
  intro i x u v hx hb hu
  cases i with
  | zero =>
   simp at hx
   subst hx
   have hua : a = u ∧ y.text ++ r = v := List.append_inj hb (by omega)
   obtain ⟨rfl, rfl⟩ := hua
   have h2 : skipS false (a ++ more) = some false := by rw [skipS_app, h]; exact hm false
   have := Cov.tok p (a ++ more) (Lex.shift more.length y) r (l.map (Lex.shift more.length)) h2 (by show y.pos + _ = _; simp; omega) z ht hy hk hn (by
    rw [show p + (a ++ more).length + (Lex.shift more.length y).text.length = p + a.length + y.text.length + more.length by show p + (a ++ more).length + y.text.length = _; simp; omega]
    exact hl.shift _)
   simpa [Lex.shift, List.append_assoc] using this
  | succ i =>
   have hx' : l[i]? = some x := by simpa using hx
   have hge := (hl.pos x (List.mem_of_getElem? hx')).1
   -- u reaches beyond the token
   have hlen : (a ++ y.text).length ≤ u.length := by simp; omega
   have hb2 : (a ++ y.text) ++ r = u ++ v := by rw [List.append_assoc]; exact hb
   obtain ⟨u2, rfl⟩ : ∃ u2, u = (a ++ y.text) ++ u2 := by
    have := List.append_eq_append_iff.1 hb2
    rcases this with ⟨q, h1, h2⟩ | ⟨q, h1, h2⟩
    ·exact ⟨q, h1⟩
    ·have : q = [] := by
      have := congrArg List.length h1
      simp at this hlen
      exact List.eq_nil_of_length_eq_zero (by omega)
     subst this
     exact ⟨[], by simpa using h1.symm⟩
   have hr : r = u2 ++ v := by
    rw [List.append_assoc (a ++ y.text) u2 v] at hb2
    exact List.append_cancel_left hb2
   have ih' := ih i x u2 v hx' hr (by simp at hu; omega)
   have hlike : Like r (u2 ++ (more ++ v)) := by
    cases u2 with
    | nil =>
     refine .inl ?_
     cases more with
     | nil => exact absurd rfl hne
     | cons b m => exact hw
    | cons c q => exact .inr ⟨c, q ++ v, q ++ (more ++ v), by simpa using hr, rfl⟩
   have := Cov.tok p a y (u2 ++ (more ++ v)) _ h hp z (tokL_new ht hy hlike) hy hk hn ih'
   simpa [List.append_assoc] using this

inductive Alike : List Tok → List Tok → Prop
 | nil : Alike [] []
 | cons {x y : Tok} {l k : List Tok} (h1 : x.kind = y.kind) (h2 : x.text = y.text) (h3 : x.num = y.num) (h : Alike l k) : Alike (x :: l) (y :: k)
def isName (s : List UInt8) : Bool := decide (1 ≤ s.length) && decide (s.length ≤ 31) && (match s with | [] => false | b :: _ => isLo b) && s.all isWd && !keywords.contains s
end Go.Proofs.YtnlocdijdfclcaaGreatDoor.Lex

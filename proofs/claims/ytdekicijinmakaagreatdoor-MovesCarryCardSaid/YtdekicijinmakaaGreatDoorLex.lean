/-
  Tokens of the scenario language: plain laws (no program in sight).
-/
import Derived.Test.YtdekicijinmakaaGreatDoorBase
import Derived.Lib.LastIndexByte
namespace Go.Proofs.YtdekicijinmakaaGreatDoor.Lex
set_option linter.unusedVariables false
set_option linter.unusedSimpArgs false

structure Tok where
  kind : Nat
  text : List UInt8
  num : Nat
  pos : Nat

def isBl (b : UInt8) : Bool := b == 32 || b == 9 || b == 10 || b == 13
def isLo (b : UInt8) : Bool := decide (97 ≤ b.toNat) && decide (b.toNat ≤ 122)
def isDi (b : UInt8) : Bool := decide (48 ≤ b.toNat) && decide (b.toNat ≤ 57)
def isWd (b : UInt8) : Bool := isLo b || isDi b || b == 95

/-- how many bytes of spaces and comments there are ahead; true: in a comment -/
def skipL : Bool → List UInt8 → Nat
  | _, [] => 0
  | true, b :: bs => skipL (b != 10) bs + 1
  | false, b :: bs => if b == 35 then skipL true bs + 1 else if isBl b then skipL false bs + 1 else 0

def numV (bs : List UInt8) : Nat := bs.foldl (fun a c => 10 * a + (c.toNat - 48)) 0
def keywords : List (List UInt8) := [[97, 108, 119, 97, 121, 115], [98, 101, 102, 111, 114, 101], [98, 121], [99, 97, 112, 97, 99, 105, 116, 121], [100, 97, 114, 107], [100, 105, 115, 116, 117, 114, 98], [102, 97, 105, 108, 117, 114, 101, 115], [102, 101, 101, 100], [103, 114, 111, 117, 112], [105, 110], [106, 111, 98], [107, 101, 101, 112], [108, 105, 110, 107], [108, 111, 97, 100], [109, 97, 99, 104, 105, 110, 101], [111, 110], [111, 110, 108, 121], [111, 114, 100, 101, 114], [112, 111, 111, 108], [113, 117, 111, 114, 117, 109], [114, 97, 99, 107], [114, 101, 115, 101, 114, 118, 101], [115, 104, 97, 114, 101], [115, 105, 108, 101, 110, 99, 101], [115, 105, 116, 101], [115, 105, 122, 101], [115, 108, 111, 116, 115], [115, 112, 114, 101, 97, 100]]
def nextBad (bs : List UInt8) : Bool := match bs with
  | [] => false
  | b :: _ => isLo b || b == 95

def tokL (bs : List UInt8) : Except Nat Tok :=
  match bs with
  | [] => .error 3
  | b :: r =>
    if isLo b then
      let t := (b :: r).takeWhile isWd
      if 31 < t.length then .error 8 else .ok ⟨if keywords.contains t then 2 else 1, t, 0, 0⟩
    else if isDi b then
      let t := (b :: r).takeWhile isDi
      if (decide (1 < t.length) && b == 48) || nextBad ((b :: r).drop t.length) then .error 3
      else if 1048576 < numV t then .error 2 else .ok ⟨3, t, numV t, 0⟩
    else if b == 59 || b == 44 then .ok ⟨4, [b], 0, 0⟩ else .error 3

def scanF : Nat → Nat → List UInt8 → Except (Nat × Nat) (List Tok)
  | 0, p, _ => .ok [⟨0, [], 0, p⟩]
  | f + 1, p, bs =>
    match bs.drop (skipL false bs) with
    | [] => .ok [⟨0, [], 0, p + skipL false bs⟩]
    | b :: r => match tokL (b :: r) with
      | .error e => .error (p + skipL false bs, e)
      | .ok t => match scanF f (p + skipL false bs + t.text.length) ((b :: r).drop t.text.length) with
        | .error x => .error x
        | .ok l => .ok (⟨t.kind, t.text, t.num, p + skipL false bs⟩ :: l)

theorem skipL_le : ∀ (c : Bool) (bs : List UInt8), skipL c bs ≤ bs.length
  | _, [] => by unfold skipL; simp
  | true, b :: bs => by have := skipL_le (b != 10) bs; unfold skipL; simp; omega
  | false, b :: bs => by
    have h1 := skipL_le true bs
    have h2 := skipL_le false bs
    unfold skipL
    split
    · simp; omega
    · split <;> simp <;> omega

theorem takeWhile_pre (p : UInt8 → Bool) : ∀ bs : List UInt8, bs.takeWhile p ++ bs.drop (bs.takeWhile p).length = bs
  | [] => rfl
  | b :: bs => by
    have ih := takeWhile_pre p bs
    by_cases h : p b = true
    · simp [List.takeWhile, h, ih]
    · simp [List.takeWhile, h]

/-- what a token's text is of its source -/
theorem tokL_text {bs : List UInt8} {t : Tok} (h : tokL bs = .ok t) : 1 ≤ t.text.length ∧ bs = t.text ++ bs.drop t.text.length := by
  cases bs with
  | nil => simp [tokL] at h
  | cons b r =>
    unfold tokL at h
    by_cases h1 : isLo b = true
    · simp only [h1, if_true] at h
      split at h
      · cases h
      · cases h
        have hw : isWd b = true := by unfold isWd; rw [h1]; rfl
        refine ⟨by simp [List.takeWhile, hw], (takeWhile_pre isWd (b :: r)).symm⟩
    · by_cases h2 : isDi b = true
      · simp only [h1, h2, if_true, Bool.false_eq_true, if_false] at h
        split at h
        · cases h
        · split at h
          · cases h
          · cases h
            refine ⟨by simp [List.takeWhile, h2], (takeWhile_pre isDi (b :: r)).symm⟩
      · simp only [h1, h2, Bool.false_eq_true, if_false] at h
        split at h
        · cases h; simp
        · cases h

theorem scanF_fuel : ∀ (f g p : Nat) (bs : List UInt8), bs.length < f → bs.length < g → scanF f p bs = scanF g p bs
  | 0, _, _, _, h, _ => absurd h (Nat.not_lt_zero _)
  | _ + 1, 0, _, _, _, h => absurd h (Nat.not_lt_zero _)
  | f + 1, g + 1, p, bs, hf, hg => by
    unfold scanF
    have hk := skipL_le false bs
    cases hd : bs.drop (skipL false bs) with
    | nil => rfl
    | cons b r =>
      simp only
      have hl : (b :: r).length ≤ bs.length := by rw [← hd, List.length_drop]; omega
      cases ht : tokL (b :: r) with
      | error e => rfl
      | ok t =>
        simp only
        have h1 := (tokL_text ht).1
        have h0 : 1 ≤ (b :: r).length := by simp
        have h2 : ((b :: r).drop t.text.length).length < f := by rw [List.length_drop]; omega
        have h3 : ((b :: r).drop t.text.length).length < g := by rw [List.length_drop]; omega
        rw [scanF_fuel f g _ _ h2 h3]
def scan (p : Nat) (bs : List UInt8) : Except (Nat × Nat) (List Tok) := scanF (bs.length + 1) p bs
theorem scan_eq (p : Nat) (bs : List UInt8) : scan p bs =
    match bs.drop (skipL false bs) with
    | [] => .ok [⟨0, [], 0, p + skipL false bs⟩]
    | b :: r => match tokL (b :: r) with
      | .error e => .error (p + skipL false bs, e)
      | .ok t => match scan (p + skipL false bs + t.text.length) ((b :: r).drop t.text.length) with
        | .error x => .error x
        | .ok l => .ok (⟨t.kind, t.text, t.num, p + skipL false bs⟩ :: l) := by
  unfold scan
  conv => lhs; unfold scanF
  have hk := skipL_le false bs
  cases hd : bs.drop (skipL false bs) with
  | nil => rfl
  | cons b r =>
    simp only
    have hl : (b :: r).length ≤ bs.length := by rw [← hd, List.length_drop]; omega
    cases ht : tokL (b :: r) with
    | error e => rfl
    | ok t =>
      simp only
      have h1 := (tokL_text ht).1
      have h0 : 1 ≤ (b :: r).length := by simp
      rw [scanF_fuel bs.length (((b :: r).drop t.text.length).length + 1) _ _ (by rw [List.length_drop]; omega) (by omega)]

/-- the state of skipping behind a; none: it stopped in a -/
def skipS : Bool → List UInt8 → Option Bool
  | c, [] => some c
  | true, b :: bs => skipS (b != 10) bs
  | false, b :: bs => if b == 35 then skipS true bs else if isBl b then skipS false bs else none
theorem skipL_app : ∀ (c : Bool) (a v : List UInt8), skipL c (a ++ v) = match skipS c a with
    | some c' => a.length + skipL c' v
    | none => skipL c a
  | c, [], v => by simp [skipS]
  | true, b :: a, v => by
    have ih := skipL_app (b != 10) a v
    show skipL (b != 10) (a ++ v) + 1 = _
    rw [ih]
    show _ = match skipS (b != 10) a with
      | some c' => (b :: a).length + skipL c' v
      | none => skipL true (b :: a)
    cases skipS (b != 10) a with
    | none => rfl
    | some c' => simp; omega
  | false, b :: a, v => by
    have i1 := skipL_app true a v
    have i2 := skipL_app false a v
    show (if b == 35 then skipL true (a ++ v) + 1 else if isBl b then skipL false (a ++ v) + 1 else 0) = _
    rw [i1, i2]
    show _ = match (if b == 35 then skipS true a else if isBl b then skipS false a else none) with
      | some c' => (b :: a).length + skipL c' v
      | none => (if b == 35 then skipL true a + 1 else if isBl b then skipL false a + 1 else 0)
    by_cases h1 : (b == 35) = true
    · simp only [h1, if_true]
      cases skipS true a with
      | none => rfl
      | some c' => simp; omega
    · simp only [h1, if_false, Bool.false_eq_true]
      by_cases h2 : isBl b = true
      · simp only [h2, if_true]
        cases skipS false a with
        | none => rfl
        | some c' => simp; omega
      · simp [h2]
theorem skipS_none : ∀ (c : Bool) (a : List UInt8), skipS c a = none → skipL c a < a.length
  | c, [], h => by simp [skipS] at h
  | true, b :: a, h => by
    have := skipS_none (b != 10) a h
    show skipL (b != 10) a + 1 < _
    simp; omega
  | false, b :: a, h => by
    have h' : (if b == 35 then skipS true a else if isBl b then skipS false a else none) = none := h
    show (if b == 35 then skipL true a + 1 else if isBl b then skipL false a + 1 else 0) < _
    by_cases h1 : (b == 35) = true
    · simp only [h1, if_true] at h' ⊢
      have := skipS_none true a h'
      simp; omega
    · simp only [h1, if_false, Bool.false_eq_true] at h' ⊢
      by_cases h2 : isBl b = true
      · simp only [h2, if_true] at h' ⊢
        have := skipS_none false a h'
        simp; omega
      · simp [h2]
theorem skipS_some {c : Bool} {a : List UInt8} (h : skipL c a = a.length) : ∃ c', skipS c a = some c' := by
  cases h2 : skipS c a with
  | some c' => exact ⟨c', rfl⟩
  | none => have := skipS_none c a h2; omega
theorem skipL_some {c c' : Bool} {a : List UInt8} (h : skipS c a = some c') : skipL c a = a.length := by
  have := skipL_app c a []
  rw [h, List.append_nil] at this
  rw [this]; simp [skipL]
/-- what was skipped is skipped by itself -/
theorem skip_take (c : Bool) (bs : List UInt8) : skipL c (bs.take (skipL c bs)) = skipL c bs := by
  have h := skipL_app c (bs.take (skipL c bs)) (bs.drop (skipL c bs))
  rw [List.take_append_drop] at h
  have hl : (bs.take (skipL c bs)).length = skipL c bs := by rw [List.length_take]; have := skipL_le c bs; omega
  cases h2 : skipS c (bs.take (skipL c bs)) with
  | none => rw [h2] at h; exact h.symm
  | some c' => rw [skipL_some h2, hl]
theorem skip_stop {bs : List UInt8} {b : UInt8} {r : List UInt8} : ∀ {c : Bool}, bs.drop (skipL c bs) = b :: r → ∃ a, bs = a ++ b :: r ∧ a.length = skipL c bs ∧ skipS c a = some false ∧ isBl b = false ∧ (b == 35) = false := fun {c} h => by
  refine ⟨bs.take (skipL c bs), by rw [← h, List.take_append_drop], by rw [List.length_take]; have := skipL_le c bs; omega, ?_⟩
  have hl : (bs.take (skipL c bs)).length = skipL c bs := by rw [List.length_take]; have := skipL_le c bs; omega
  obtain ⟨c', h2⟩ := skipS_some ((skip_take c bs).trans hl.symm)
  have h3 := skipL_app c (bs.take (skipL c bs)) (bs.drop (skipL c bs))
  rw [List.take_append_drop, h2, h] at h3
  have h4 : skipL c' (b :: r) = 0 := by simp only [hl] at h3; omega
  cases c' with
  | true => simp [skipL] at h4
  | false =>
    refine ⟨h2, ?_⟩
    have h5 : (if b == 35 then skipL true r + 1 else if isBl b then skipL false r + 1 else 0) = 0 := h4
    by_cases e1 : (b == 35) = true
    · simp [e1] at h5
    · by_cases e2 : isBl b = true
      · simp [e1, e2] at h5
      · exact ⟨by simpa using e2, by simpa using e1⟩

/-- p does not hold of the next byte -/
def StopP (p : UInt8 → Bool) : List UInt8 → Prop
  | [] => True
  | b :: _ => p b = false
/-- no byte of a word comes next -/
def NonW : List UInt8 → Prop
  | [] => True
  | b :: _ => isWd b = false
theorem takeWhile_app {p : UInt8 → Bool} : ∀ {t r : List UInt8}, (t ++ r).takeWhile p = t → (∀ c ∈ t, p c = true) ∧ StopP p r
  | [], [], _ => ⟨fun c h => (by cases h), trivial⟩
  | [], b :: r, h => by
    refine ⟨fun c h => (by cases h), ?_⟩
    by_cases hb : p b = true
    · simp [hb] at h
    · show p b = false; simpa using hb
  | a :: t, r, h => by
    by_cases ha : p a = true
    · simp only [List.cons_append, List.takeWhile, ha, List.cons.injEq, true_and] at h
      obtain ⟨h1, h2⟩ := takeWhile_app h
      exact ⟨fun c hc => by rcases List.mem_cons.1 hc with rfl | hc; exact ha; exact h1 c hc, h2⟩
    · simp [ha] at h
theorem takeWhile_new {p : UInt8 → Bool} : ∀ {t r : List UInt8}, (∀ c ∈ t, p c = true) → StopP p r → (t ++ r).takeWhile p = t
  | [], [], _, _ => rfl
  | [], b :: r, _, h => by have h : p b = false := h; simp [h]
  | a :: t, r, h, h2 => by
    have ha := h a List.mem_cons_self
    simp only [List.cons_append, List.takeWhile, ha]
    rw [takeWhile_new (fun c hc => h c (List.mem_cons_of_mem _ hc)) h2]
theorem nonW_di {r : List UInt8} (h : NonW r) : StopP isDi r := by
  cases r with
  | nil => trivial
  | cons b r => unfold NonW isWd at h; simp at h; show isDi b = false; simpa using h.1.2
theorem nonW_wd {r : List UInt8} (h : NonW r) : StopP isWd r := by
  cases r with
  | nil => trivial
  | cons b r => exact h
theorem nonW_bad {r : List UInt8} (h : NonW r) : nextBad r = false := by
  cases r with
  | nil => rfl
  | cons b r => unfold NonW isWd at h; simp at h; unfold nextBad; simp [h.1.1, h.2]
/-- what comes behind a token may be replaced by what is no word, or by what begins with the same byte -/
def Like (r r' : List UInt8) : Prop := NonW r' ∨ ∃ c q q', r = c :: q ∧ r' = c :: q'
theorem Like.stop {r r' : List UInt8} {p : UInt8 → Bool} (h : Like r r') (hp : ∀ c, p c = true → isWd c = true) (hr : StopP p r) : StopP p r' := by
  rcases h with h | ⟨c, q, q', rfl, rfl⟩
  · cases r' with
    | nil => trivial
    | cons b r =>
      have h : isWd b = false := h
      show p b = false
      cases hb : p b with
      | false => rfl
      | true => rw [hp b hb] at h; cases h
  · exact hr
theorem Like.bad {r r' : List UInt8} (h : Like r r') (hr : nextBad r = false) : nextBad r' = false := by
  rcases h with h | ⟨c, q, q', rfl, rfl⟩
  · exact nonW_bad h
  · exact hr
theorem tokL_new {t : List UInt8} {x : Tok} {r r' : List UInt8} (h : tokL (t ++ r) = .ok x) (ht : x.text = t) (hr : Like r r') : tokL (t ++ r') = .ok x := by
  cases t with
  | nil =>
    have := (tokL_text h).1
    rw [ht] at this
    simp at this
  | cons b t =>
    simp only [List.cons_append] at h ⊢
    unfold tokL at h ⊢
    by_cases h1 : isLo b = true
    · simp only [h1, if_true] at h ⊢
      have e : (b :: (t ++ r)).takeWhile isWd = b :: t := by
        split at h
        · cases h
        · cases h; exact ht
      rw [e] at h
      have e1 := takeWhile_app (t := b :: t) e
      have e2 : (b :: (t ++ r')).takeWhile isWd = b :: t := takeWhile_new (t := b :: t) e1.1 (hr.stop (fun _ h => h) e1.2)
      rw [e2]; exact h
    · by_cases h2 : isDi b = true
      · simp only [h1, h2, if_true, Bool.false_eq_true, if_false] at h ⊢
        have e : (b :: (t ++ r)).takeWhile isDi = b :: t := by
          split at h
          · cases h
          · split at h
            · cases h
            · cases h; exact ht
        rw [e] at h
        have e1 := takeWhile_app (t := b :: t) e
        have e2 : (b :: (t ++ r')).takeWhile isDi = b :: t := takeWhile_new (t := b :: t) e1.1 (hr.stop (fun c hc => by unfold isWd; rw [hc]; simp) e1.2)
        rw [e2]
        have d1 : (b :: (t ++ r)).drop (b :: t).length = r := by simp
        have d2 : (b :: (t ++ r')).drop (b :: t).length = r' := by simp
        rw [d1] at h
        rw [d2]
        split at h
        · cases h
        · rename_i hc
          simp only [Bool.or_eq_true, not_or, Bool.not_eq_true] at hc
          rw [hr.bad hc.2, hc.1]
          simpa using h
      · simp only [h1, h2, Bool.false_eq_true, if_false] at h ⊢
        exact h

theorem tokL_start {b : UInt8} {r : List UInt8} {x : Tok} (h : tokL (b :: r) = .ok x) : isBl b = false ∧ (b == 35) = false := by
  unfold tokL at h
  have key : isWd b = true ∨ b = 59 ∨ b = 44 := by
    by_cases h1 : isLo b = true
    · exact .inl (by unfold isWd; rw [h1]; rfl)
    · by_cases h2 : isDi b = true
      · exact .inl (by unfold isWd; rw [h2]; simp)
      · simp only [h1, h2, Bool.false_eq_true, if_false] at h
        split at h
        · rename_i hc; simp only [Bool.or_eq_true, beq_iff_eq] at hc; exact .inr hc
        · cases h
  rcases key with h | rfl | rfl
  · have hn : b ≠ 35 ∧ b ≠ 32 ∧ b ≠ 9 ∧ b ≠ 10 ∧ b ≠ 13 := by
      refine ⟨?_, ?_, ?_, ?_, ?_⟩ <;> (rintro rfl; revert h; decide)
    unfold isBl
    simp [hn]
  · exact ⟨by decide, by decide⟩
  · exact ⟨by decide, by decide⟩
theorem tokL_kind {bs : List UInt8} {x : Tok} (h : tokL bs = .ok x) : x.kind ≠ 0 := by
  cases bs with
  | nil => simp [tokL] at h
  | cons b r =>
    unfold tokL at h
    by_cases h1 : isLo b = true
    · simp only [h1, if_true] at h
      split at h
      · cases h
      · cases h; show (if _ then 2 else 1) ≠ 0; split <;> decide
    · by_cases h2 : isDi b = true
      · simp only [h1, h2, if_true, Bool.false_eq_true, if_false] at h
        split at h
        · cases h
        · split at h
          · cases h
          · cases h; exact Nat.succ_ne_zero 2
      · simp only [h1, h2, Bool.false_eq_true, if_false] at h
        split at h
        · cases h; exact Nat.succ_ne_zero 3
        · cases h

/-- the tokens cover bs, which begins at offset p: what stands between them is skipped -/
inductive Cov : Nat → List UInt8 → List Tok → Prop
  | stop (p : Nat) (a : List UInt8) (h : skipL false a = a.length) : Cov p a [⟨0, [], 0, p + a.length⟩]
  | tok (p : Nat) (a : List UInt8) (x : Tok) (r : List UInt8) (l : List Tok) (h : skipS false a = some false) (hp : x.pos = p + a.length) (y : Tok) (ht : tokL (x.text ++ r) = .ok y) (hy : y.text = x.text) (hk : y.kind = x.kind) (hn : y.num = x.num)
      (hl : Cov (p + a.length + x.text.length) r l) : Cov p (a ++ (x.text ++ r)) (x :: l)
theorem scanF_cov : ∀ (f p : Nat) (bs : List UInt8) (l : List Tok), bs.length < f → scanF f p bs = .ok l → Cov p bs l
  | 0, _, _, _, h, _ => absurd h (Nat.not_lt_zero _)
  | f + 1, p, bs, l, hf, h => by
    unfold scanF at h
    have hk := skipL_le false bs
    cases hd : bs.drop (skipL false bs) with
    | nil =>
      rw [hd] at h
      cases h
      have hl : skipL false bs = bs.length := by
        have := congrArg List.length hd
        simp at this; omega
      rw [hl]
      exact .stop p bs hl
    | cons b r =>
      rw [hd] at h
      simp only at h
      cases ht : tokL (b :: r) with
      | error e => rw [ht] at h; cases h
      | ok t =>
        rw [ht] at h
        simp only at h
        cases hs : scanF f (p + skipL false bs + t.text.length) ((b :: r).drop t.text.length) with
        | error e => rw [hs] at h; cases h
        | ok l' =>
          rw [hs] at h
          cases h
          obtain ⟨a, e, hl, hst, -, -⟩ := skip_stop hd
          obtain ⟨h1, h2⟩ := tokL_text ht
          have h0 : 1 ≤ (b :: r).length := by simp
          have hlen : (b :: r).length ≤ bs.length := by rw [← hd, List.length_drop]; omega
          have ih := scanF_cov f _ _ _ (by rw [List.length_drop]; omega) hs
          have hb : bs = a ++ (t.text ++ (b :: r).drop t.text.length) := by rw [← h2]; exact e
          rw [← hl] at ih ⊢
          have hc := Cov.tok p a ⟨t.kind, t.text, t.num, p + a.length⟩ ((b :: r).drop t.text.length) l' hst rfl t (by show tokL (t.text ++ _) = _; rw [← h2]; exact ht) rfl rfl rfl ih
          rw [hb]
          exact hc
theorem cov_scanF {p : Nat} {bs : List UInt8} {l : List Tok} (h : Cov p bs l) : ∀ f, bs.length < f → scanF f p bs = .ok l := by
  induction h with
  | stop p a h =>
    intro f hf
    cases f with
    | zero => omega
    | succ f =>
      unfold scanF
      rw [h, List.drop_length]
  | tok p a x r l h hp y ht hy hk hn hl ih =>
    intro f hf
    cases f with
    | zero => omega
    | succ f =>
      have h1 := (tokL_text ht).1
      rw [hy] at h1
      obtain ⟨b, t, hbt⟩ : ∃ b t, x.text = b :: t := by
        cases hx : x.text with
        | nil => rw [hx] at h1; simp at h1
        | cons b t => exact ⟨b, t, rfl⟩
      have hst := tokL_start (b := b) (r := t ++ r) (x := y) (by rw [hbt] at ht; exact ht)
      have hs0 : skipL false (x.text ++ r) = 0 := by
        rw [hbt]
        show (if b == 35 then skipL true (t ++ r) + 1 else if isBl b then skipL false (t ++ r) + 1 else 0) = 0
        rw [hst.1, hst.2]; rfl
      have hs : skipL false (a ++ (x.text ++ r)) = a.length := by
        have := skipL_app false a (x.text ++ r)
        rw [h] at this
        rw [this]; show a.length + skipL false _ = _; rw [hs0]; rfl
      unfold scanF
      rw [hs, List.drop_left]
      have hne : x.text ++ r = b :: (t ++ r) := by rw [hbt]; rfl
      rw [hne] at ht ⊢
      simp only [ht]
      have hd : (b :: (t ++ r)).drop y.text.length = r := by rw [hy, ← hne, List.drop_left]
      rw [hd, hy, ih f (by simp at hf; omega)]
      simp only [hk, hn]
      cases x
      simp_all

theorem skipS_app : ∀ (c : Bool) (a b : List UInt8), skipS c (a ++ b) = match skipS c a with
    | some c' => skipS c' b
    | none => none
  | c, [], b => by simp [skipS]
  | true, x :: a, b => skipS_app (x != 10) a b
  | false, x :: a, b => by
    have i1 := skipS_app true a b
    have i2 := skipS_app false a b
    show (if x == 35 then skipS true (a ++ b) else if isBl x then skipS false (a ++ b) else none) = match (if x == 35 then skipS true a else if isBl x then skipS false a else none) with
      | some c' => skipS c' b
      | none => none
    rw [i1, i2]
    by_cases h1 : (x == 35) = true
    · simp only [h1, if_true]
    · by_cases h2 : isBl x = true
      · simp only [h1, h2, if_true, if_false, Bool.false_eq_true]
      · simp [h1, h2]

def shift (d : Nat) (x : Tok) : Tok := ⟨x.kind, x.text, x.num, x.pos + d⟩
theorem Cov.shift {p : Nat} {bs : List UInt8} {l : List Tok} (h : Cov p bs l) (d : Nat) : Cov (p + d) bs (l.map (shift d)) := by
  induction h with
  | stop p a h =>
    have := Cov.stop (p + d) a h
    rw [show p + d + a.length = p + a.length + d by omega] at this
    exact this
  | tok p a x r l h hp y ht hy hk hn hl ih =>
    refine Cov.tok (p + d) a (Lex.shift d x) r _ h ?_ y ht hy hk hn ?_
    · show x.pos + d = _; omega
    · rw [show p + d + a.length + (Lex.shift d x).text.length = p + a.length + x.text.length + d by show p + d + a.length + x.text.length = _; omega]
      exact ih
theorem Cov.pos {p : Nat} {bs : List UInt8} {l : List Tok} (h : Cov p bs l) : ∀ x ∈ l, p ≤ x.pos ∧ x.pos + x.text.length ≤ p + bs.length := by
  induction h with
  | stop p a h =>
    intro x hx
    simp at hx
    subst hx
    simp
  | tok p a x r l h hp y ht hy hk hn hl ih =>
    intro z hz
    rcases List.mem_cons.1 hz with rfl | hz
    · simp; omega
    · have := ih z hz
      simp; omega
/-- white space with a comment put before token i moves the tokens from there on -/
theorem Cov.insert {p : Nat} {bs : List UInt8} {l : List Tok} (h : Cov p bs l) {more : List UInt8} (hm : ∀ c, skipS c more = some false) (hw : NonW more) (hne : more ≠ []) :
    ∀ (i : Nat) (x : Tok) (u v : List UInt8), l[i]? = some x → bs = u ++ v → p + u.length = x.pos → Cov p (u ++ (more ++ v)) (l.take i ++ (l.drop i).map (Lex.shift more.length)) := by
  induction h with
  | stop p a h =>
    intro i x u v hx hb hu
    cases i with
    | succ i => simp at hx
    | zero =>
      simp at hx
      subst hx
      have hu' : u.length = a.length := by simpa using hu
      have hv : v = [] := by
        have := congrArg List.length hb
        simp at this
        exact List.eq_nil_of_length_eq_zero (by omega)
      subst hv
      rw [List.append_nil] at hb
      subst hb
      obtain ⟨c', hc⟩ := skipS_some h
      have h1 : skipL false (a ++ more) = (a ++ more).length := by
        refine skipL_some (c' := false) ?_
        rw [skipS_app, hc]; exact hm c'
      have := Cov.stop p (a ++ more) h1
      simp only [List.append_nil]
      rw [List.length_append] at this
      simpa [Lex.shift, Nat.add_assoc] using this
  | tok p a y r l h hp z ht hy hk hn hl ih =>
    intro i x u v hx hb hu
    cases i with
    | zero =>
      simp at hx
      subst hx
      have hua : a = u ∧ y.text ++ r = v := List.append_inj hb (by omega)
      obtain ⟨rfl, rfl⟩ := hua
      have h2 : skipS false (a ++ more) = some false := by rw [skipS_app, h]; exact hm false
      have := Cov.tok p (a ++ more) (Lex.shift more.length y) r (l.map (Lex.shift more.length)) h2 (by show y.pos + _ = _; simp; omega) z ht hy hk hn (by
        rw [show p + (a ++ more).length + (Lex.shift more.length y).text.length = p + a.length + y.text.length + more.length by show p + (a ++ more).length + y.text.length = _; simp; omega]
        exact hl.shift _)
      simpa [Lex.shift, List.append_assoc] using this
    | succ i =>
      have hx' : l[i]? = some x := by simpa using hx
      have hge := (hl.pos x (List.mem_of_getElem? hx')).1
      -- u reaches beyond the token
      have hlen : (a ++ y.text).length ≤ u.length := by simp; omega
      have hb2 : (a ++ y.text) ++ r = u ++ v := by rw [List.append_assoc]; exact hb
      obtain ⟨u2, rfl⟩ : ∃ u2, u = (a ++ y.text) ++ u2 := by
        have := List.append_eq_append_iff.1 hb2
        rcases this with ⟨q, h1, h2⟩ | ⟨q, h1, h2⟩
        · exact ⟨q, h1⟩
        · have : q = [] := by
            have := congrArg List.length h1
            simp at this hlen
            exact List.eq_nil_of_length_eq_zero (by omega)
          subst this
          exact ⟨[], by simpa using h1.symm⟩
      have hr : r = u2 ++ v := by
        rw [List.append_assoc (a ++ y.text) u2 v] at hb2
        exact List.append_cancel_left hb2
      have ih' := ih i x u2 v hx' hr (by simp at hu; omega)
      have hlike : Like r (u2 ++ (more ++ v)) := by
        cases u2 with
        | nil =>
          refine .inl ?_
          cases more with
          | nil => exact absurd rfl hne
          | cons b m => exact hw
        | cons c q => exact .inr ⟨c, q ++ v, q ++ (more ++ v), by simpa using hr, rfl⟩
      have := Cov.tok p a y (u2 ++ (more ++ v)) _ h hp z (tokL_new ht hy hlike) hy hk hn ih'
      simpa [List.append_assoc] using this

/-- the text of tokens -/
def glued (t : List UInt8) : Bool := t == [59] || t == [44]
def fmtL : Bool → List Tok → List UInt8
  | _, [] => []
  | first, x :: l => if x.kind = 0 then fmtL first l else (if first || glued x.text then [] else [32]) ++ (x.text ++ fmtL false l)
/-- the same kinds, texts and numbers -/
inductive Alike : List Tok → List Tok → Prop
  | nil : Alike [] []
  | cons {x y : Tok} {l k : List Tok} (h1 : x.kind = y.kind) (h2 : x.text = y.text) (h3 : x.num = y.num) (h : Alike l k) : Alike (x :: l) (y :: k)
theorem Cov.kinds {p : Nat} {bs : List UInt8} {l : List Tok} (h : Cov p bs l) : ∃ l0 e, l = l0 ++ [e] ∧ e.kind = 0 ∧ e.text = [] ∧ e.num = 0 ∧ e.pos = p + bs.length ∧ ∀ x ∈ l0, x.kind ≠ 0 ∧ x.text ≠ [] := by
  induction h with
  | stop p a h => exact ⟨[], _, rfl, rfl, rfl, rfl, rfl, fun x hx => (by cases hx)⟩
  | tok p a x r l h hp y ht hy hk hn hl ih =>
    obtain ⟨l0, e, rfl, h1, h2, h3, h4, h5⟩ := ih
    refine ⟨x :: l0, e, rfl, h1, h2, h3, by rw [h4]; simp; omega, fun z hz => ?_⟩
    rcases List.mem_cons.1 hz with rfl | hz
    · refine ⟨hk ▸ tokL_kind ht, fun e => ?_⟩
      have := (tokL_text ht).1
      rw [hy, e] at this
      simp at this
    · exact h5 z hz
theorem fmt_nonW {p : Nat} {bs : List UInt8} {l : List Tok} (h : Cov p bs l) : NonW (fmtL false l) := by
  cases h with
  | stop p a h => trivial
  | tok p a x r l h hp y ht hy hk hn hl =>
    unfold fmtL
    rw [if_neg (by rw [← hk]; exact tokL_kind ht)]
    by_cases hg : glued x.text = true
    · simp only [hg, Bool.or_true, if_true, List.nil_append]
      unfold glued at hg
      simp only [Bool.or_eq_true, beq_iff_eq] at hg
      rcases hg with hg | hg <;> rw [hg] <;> (show isWd _ = false; decide)
    · simp only [hg, Bool.or_false, Bool.false_eq_true, if_false]
      show isWd 32 = false
      decide
theorem Cov.again {p : Nat} {bs : List UInt8} {l : List Tok} (h : Cov p bs l) : ∀ (first : Bool) (q : Nat), ∃ k, Cov q (fmtL first l) k ∧ Alike l k := by
  induction h with
  | stop p a h =>
    intro first q
    refine ⟨[⟨0, [], 0, q + 0⟩], ?_, .cons rfl rfl rfl .nil⟩
    have : fmtL first [⟨0, [], 0, p + a.length⟩] = [] := by unfold fmtL; rw [if_pos rfl]; rfl
    rw [this]
    exact Cov.stop q [] rfl
  | tok p a x r l h hp y ht hy hk hn hl ih =>
    intro first q
    unfold fmtL
    rw [if_neg (by rw [← hk]; exact tokL_kind ht)]
    obtain ⟨b, hb⟩ : ∃ b, (if (first || glued x.text) = true then [] else [32] : List UInt8) = b := ⟨_, rfl⟩
    have hs : skipS false b = some false := by rw [← hb]; split <;> decide
    rw [hb]
    obtain ⟨k, hc, ha⟩ := ih false (q + b.length + x.text.length)
    refine ⟨⟨x.kind, x.text, x.num, q + b.length⟩ :: k, ?_, .cons rfl rfl rfl ha⟩
    exact Cov.tok q b ⟨x.kind, x.text, x.num, q + b.length⟩ _ k hs rfl y (tokL_new ht hy (.inl (fmt_nonW hl))) hy hk hn hc
theorem fmt_len {p : Nat} {bs : List UInt8} {l : List Tok} (h : Cov p bs l) : ∀ first, (fmtL first l).length ≤ 2 * bs.length := by
  induction h with
  | stop p a h => intro first; unfold fmtL; rw [if_pos rfl]; simp [fmtL]
  | tok p a x r l h hp y ht hy hk hn hl ih =>
    intro first
    unfold fmtL
    rw [if_neg (by rw [← hk]; exact tokL_kind ht)]
    have h1 := (tokL_text ht).1
    rw [hy] at h1
    have h2 := ih false
    have h3 : (if (first || glued x.text) = true then [] else [32] : List UInt8).length ≤ 1 := by split <;> simp
    simp only [List.length_append] at h2 ⊢
    omega

/-- a name is one token, a keyword one, a number one -/
def isName (s : List UInt8) : Bool := decide (1 ≤ s.length) && decide (s.length ≤ 31) && (match s with | [] => false | b :: _ => isLo b) && s.all isWd && !keywords.contains s
theorem tokL_word {s : List UInt8} {b : UInt8} {r : List UInt8} (hs : s = b :: r) (hb : isLo b = true) (hl : s.length ≤ 31) (ha : s.all isWd = true) : tokL s = .ok ⟨if keywords.contains s then 2 else 1, s, 0, 0⟩ := by
  have e : s.takeWhile isWd = s := by
    have := takeWhile_new (p := isWd) (t := s) (r := []) (fun c hc => List.all_eq_true.1 ha c hc) trivial
    simpa using this
  subst hs
  unfold tokL
  simp only [hb, if_true]
  rw [e, if_neg (by omega)]
theorem cov_one {s : List UInt8} {x : Tok} (h : tokL s = .ok x) (ht : x.text = s) : Cov 0 s [⟨x.kind, s, x.num, 0⟩, ⟨0, [], 0, s.length⟩] := by
  have := Cov.tok 0 [] ⟨x.kind, s, x.num, 0⟩ [] [⟨0, [], 0, 0 + 0 + s.length + 0⟩] rfl rfl x (by simpa using h) ht rfl rfl (by
    have := Cov.stop (0 + 0 + s.length) [] rfl
    simpa using this)
  simpa using this
theorem tokL_num {s : List UInt8} {b : UInt8} {r : List UInt8} (hs : s = b :: r) (ha : s.all isDi = true) (h0 : b ≠ 48 ∨ s.length = 1) : tokL s = if 1048576 < numV s then .error 2 else .ok ⟨3, s, numV s, 0⟩ := by
  have hb : isDi b = true := by rw [hs] at ha; simp at ha; exact ha.1
  have hlo : isLo b = false := by
    unfold isDi at hb
    unfold isLo
    simp only [Bool.and_eq_true, decide_eq_true_eq] at hb
    rw [decide_eq_false (by omega)]; rfl
  have e : s.takeWhile isDi = s := by
    have := takeWhile_new (p := isDi) (t := s) (r := []) (fun c hc => List.all_eq_true.1 ha c hc) trivial
    simpa using this
  have hd : s.drop s.length = [] := List.drop_length
  have hc : (decide (1 < s.length) && b == 48) = false := by
    rcases h0 with h0 | h0
    · have : (b == 48) = false := by simpa using h0
      rw [this]; simp
    · rw [h0]; rfl
  subst hs
  unfold tokL
  simp only [hb, hlo, if_true, Bool.false_eq_true, if_false]
  rw [e, hd, hc]
  rfl

theorem keywords_ok : ∀ k ∈ keywords, 1 ≤ k.length ∧ k.length ≤ 31 ∧ k.all isWd = true ∧ (match k with | [] => false | b :: _ => isLo b) = true := by decide

/-- the line and the column behind b -/
def lineL (b : List UInt8) : Nat × Nat := b.foldl (fun q x => if x == 10 then (q.1 + 1, 1) else (q.1, q.2 + 1)) (1, 1)
theorem lineL_snoc (b : List UInt8) (x : UInt8) : lineL (b ++ [x]) = if x == 10 then ((lineL b).1 + 1, 1) else ((lineL b).1, (lineL b).2 + 1) := by
  unfold lineL; rw [List.foldl_append]; rfl
theorem lineL_count : ∀ (n : Nat) (b : List UInt8), b.length = n → (lineL b).1 = 1 + b.count 10
  | 0, b, h => by rw [List.eq_nil_of_length_eq_zero h]; rfl
  | n + 1, b, h => by
    obtain ⟨c, x, rfl⟩ : ∃ c x, b = c ++ [x] := ⟨b.dropLast, b.getLast (by intro e; rw [e] at h; simp at h), (List.dropLast_concat_getLast _).symm⟩
    have ih := lineL_count n c (by simp at h; exact h)
    rw [lineL_snoc, List.count_append]
    by_cases hx : (x == 10) = true
    · rw [if_pos hx]; simp only [ih]; simp [List.count_cons, hx]; omega
    · rw [if_neg hx]; simp only [ih]; simp [List.count_cons, hx]
theorem lineL_last (s : ByteArray) : ∀ k : Nat, k ≤ s.size → ((lineL (s.data.toList.take k)).2 : Int) = (k : Int) - Go.Lib.lastIdx s 10 k
  | 0, _ => by simp [lineL, Go.Lib.lastIdx]
  | k + 1, h => by
    have ih := lineL_last s k (by omega)
    have hk2 : k < s.data.size := h
    have hk : k < s.data.toList.length := by rw [Array.length_toList]; exact h
    rw [List.take_succ_eq_append_getElem hk, lineL_snoc]
    have hg : s.data[k]! = s.data.toList[k] := by rw [getElem!_pos s.data k hk2]; rfl
    unfold Go.Lib.lastIdx
    rw [hg]
    by_cases hx : (s.data.toList[k] == 10) = true
    · have hx2 : s.data.toList[k] = 10 := by simpa using hx
      rw [if_pos hx, hx2, if_pos (by decide)]; simp; omega
    · have hx2 : ¬ ((s.data.toList[k].toNat : Int) = 10) := fun e => hx (by
        have : s.data.toList[k].toNat = (10 : UInt8).toNat := by show _ = 10; omega
        simpa using UInt8.toNat_inj.1 this)
      rw [if_neg hx, if_neg hx2]; simp; omega
end Go.Proofs.YtdekicijinmakaaGreatDoor.Lex

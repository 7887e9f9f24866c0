/- Texts: PsA. -/
import Derived.Test.YtcjgimlcefhhmaaGreatDoorW12
import Derived.Test.YtcjgimlcefhhmaaGreatDoorW15
set_option linter.unusedVariables false
set_option linter.unusedSimpArgs false
set_option maxRecDepth 100000
set_option maxHeartbeats 12800000
namespace Go.Proofs.YtcjgimlcefhhmaaGreatDoor
namespace Prf
open Go.RowKit Go.Lib
def ξ1 (P : Prop) (r : Value) : Prop := ∃ t : Bool, r = .bool t ∧ (t = true ↔ P)
theorem ξ1.yes {P : Prop} (h : P) : ξ1 P (.bool true) := ⟨true, rfl, by simp [h]⟩
theorem ξ1.no {P : Prop} (h : ¬ P) : ξ1 P (.bool false) := ⟨false, rfl, by simp [h]⟩
theorem ξ1.cases {P : Prop} {r : Value} (h : ξ1 P r) : (r = .bool true ∧ P) ∨ (r = .bool false ∧ ¬ P) := by
 obtain ⟨t, rfl, ht⟩ := h
 cases t
 ·exact .inr ⟨rfl, fun h => by have := ht.2 h; cases this⟩
 ·exact .inl ⟨rfl, ht.1 rfl⟩
theorem ξ1.iff {P Q : Prop} {r : Value} (h : ξ1 P r) (e : P ↔ Q) : ξ1 Q r := by
 obtain ⟨t, rfl, ht⟩ := h
 exact ⟨t, rfl, ht.trans e⟩
theorem ξ8m (w : World) (n : Int) : Calls Tryz.prog 31 #[.int .i64 n] w fun e w' => ∃ r, e = .returned r ∧ w = w' ∧ ξ1 (In n) r := by
 by_cases h1 : -1099511627776 ≤ n
 ·by_cases h2 : n ≤ 1099511627776
  ·have H := ξ (show In n from ⟨h1, h2⟩)
   go_enter Tryz.func31, Tryz.ntmps31
   go_wp2_with fail
   go_ret
   exact ⟨_, rfl, rfl, by simpa [h1, h2] using ξ1.yes H.out⟩
  ·have H := ξ (show ¬ In n from fun h => h2 h.2)
   go_enter Tryz.func31, Tryz.ntmps31
   go_wp2_with fail
   go_ret
   exact ⟨_, rfl, rfl, by simpa [h1, h2] using ξ1.no H.out⟩
 ·have H := ξ (show ¬ In n from fun h => h1 h.1)
  go_enter Tryz.func31, Tryz.ntmps31
  go_wp2_with fail
  go_ret
  exact ⟨_, rfl, rfl, by simpa [h1] using ξ1.no H.out⟩
def rowV (x : RowM) : Value := .agg #[.string ⟨x.name.toArray⟩, .int .i64 x.group, .int .i64 x.kind, .slice x.tp x.terms.length x.tc, .int .i64 x.bound]
theorem ξ0s.big {w : World} {p : Option Addr} {c : Nat} {l : List ξ8} (h : ξ0s w (.slice p l.length c) l) : l.length ≤ c ∧ c ≤ 9223372036854775807 := by
 obtain ⟨p', c', e, h1, h2⟩ := SlL.parts h
 cases e; exact ⟨h1, h2⟩
theorem ξ1q {n : Nat} : ∀ (l : List ξ8) (last : Int) (k : Nat) (t : ξ8), l[k]? = some t → Inc n last l → (last < t.v ∧ t.v < (n : Int) ∧ t.c ≠ 0 ∧ In t.c)
 | x :: l, last, 0, t, ht, h => by simp at ht; subst ht; exact h.1
 | x :: l, last, k + 1, t, ht, h => by
  have h1 := ξ1q l x.v k t (by simpa using ht) h.2
  have h2 := h.1.1
  exact ⟨by omega, h1.2⟩
theorem ξ6S {n : Nat} (t : ξ8) : ∀ (l : List ξ8) (last : Int), Inc n last l → (∀ x, l.getLast? = some x → x.v < t.v) → (l = [] → last < t.v) → t.v < (n : Int) → t.c ≠ 0 → In t.c → Inc n last (l ++ [t])
 | [], last, _, _, h2, h3, h4, h5 => ⟨⟨h2 rfl, h3, h4, h5⟩, trivial⟩
 | x :: l, last, h, h1, h2, h3, h4, h5 => ⟨h.1, ξ6S t l x.v h.2 (fun y hy => h1 y (by cases l <;> simp_all)) (fun e => h1 x (by subst e; rfl)) h3 h4 h5⟩
def lastV (l : List ξ8) (k : Nat) : Int := match (l.take k).getLast? with
 | some t => t.v
 | none => -1
theorem ξ53 {l : List ξ8} {k : Nat} {t : ξ8} (h : l[k]? = some t) : lastV l (k + 1) = t.v := by
 unfold lastV
 have hk := (List.getElem?_eq_some_iff.1 h).1
 rw [List.take_succ_eq_append_getElem hk]
 have : l[k] = t := (List.getElem?_eq_some_iff.1 h).2
 simp [this]
theorem ξ6t {n : Nat} {l : List ξ8} {k : Nat} {t : ξ8} (ht : l[k]? = some t) (h : Inc n (-1) (l.take k)) (h1 : lastV l k < t.v) (h2 : t.v < (n : Int)) (h3 : t.c ≠ 0) (h4 : In t.c) : Inc n (-1) (l.take (k + 1)) := by
 have hk := (List.getElem?_eq_some_iff.1 ht).1
 rw [List.take_succ_eq_append_getElem hk]
 have e : l[k] = t := (List.getElem?_eq_some_iff.1 ht).2
 rw [e]
 unfold lastV at h1
 refine ξ6S t _ _ h (fun x hx => ?_) (fun e => ?_) h2 h3 h4
 ·rw [hx] at h1; exact h1
 ·rw [e] at h1; exact h1
theorem ξ44 {n : Nat} {l : List ξ8} {k : Nat} {t : ξ8} (ht : l[k]? = some t) (h : ¬ (lastV l k < t.v ∧ t.v < (n : Int) ∧ t.c ≠ 0 ∧ In t.c)) : ¬ Inc n (-1) l := fun hi => h (by
 have h1 := ξ1q l (-1) k t ht hi
 refine ⟨?_, h1.2⟩
 unfold lastV
 cases k with
 | zero => simpa using h1.1
 | succ k =>
  have hk := (List.getElem?_eq_some_iff.1 ht).1
  rw [List.take_succ_eq_append_getElem (by omega), List.getLast?_append, List.getLast?_singleton]
  exact inc_two l (-1) k t (l[k]) (List.getElem?_eq_getElem (by omega)) ht hi)
where inc_two {n : Nat} : ∀ (l : List ξ8) (last : Int) (k : Nat) (t x : ξ8), l[k]? = some x → l[k + 1]? = some t → Inc n last l → x.v < t.v
 | y :: l, last, 0, t, x, hx, ht, h => by
  simp at hx; subst hx
  exact (ξ1q l y.v 0 t (by simpa using ht) h.2).1
 | y :: l, last, k + 1, t, x, hx, ht, h => inc_two l y.v k t x (by simpa using hx) (by simpa using ht) h.2
theorem ξ6d (w : World) (n : Nat) (x : RowM) (hn : n ≤ 1000000) (hx : ξ1G w x) (hi : RowI x.s) (hl : x.name.length ≤ 1000000) :
  Calls Tryz.prog 15 #[.int .i64 (n : Int), rowV x] w (Ret w fun r _ => ξ1 (ξI n x.s) r) := by
 have B := ξ0.new w #[.string ⟨x.name.toArray⟩, .int .i64 x.group, .int .i64 x.kind, .slice x.tp x.terms.length x.tc, .int .i64 x.bound] 42
 have HB := ξ B
 have HX := ξ (SlL.grow hx B.1)
 have hb := ξ0s.big hx
 have HI := ξ hi
 clear B hx hi
 unfold rowV
 have HI5 := ξ HI.out.2.2.1
 go_enter Tryz.func15, Tryz.ntmps15
 go_wp2_with fail
 any_goals (go_ret; exact ⟨_, rfl, HB.out.1, ξ1.no fun k => by
  obtain ⟨⟨q1, q2⟩, ⟨q3, q4⟩, q5, -⟩ := k
  simp only [RowM.s] at q1 q2 q3 q4 q5
  omega⟩)
 have HA := ξ (show (0 ≤ x.s.kind ∧ x.s.kind ≤ 2) ∧ (0 ≤ x.s.group ∧ x.s.group ≤ 60) ∧ x.s.name.length ≤ 80 by simp only [RowM.s]; omega)
 generalize w.heap.size = bp at HB ⊢
 generalize w.alloc _ = W at HB HX ⊢
 have G := ξ HB.out.1
 have TX := ξ HB.out.2
 clear HB
 have x0 := TX.out.at 0 rfl
 have x1 := TX.out.at 1 rfl
 have x2 := TX.out.at 2 rfl
 have x3 := TX.out.at 3 rfl
 have x4 := TX.out.at 4 rfl
 refine (ξ8m W x.bound).mono ?_
 rintro _ _ ⟨r, rfl, rfl, h⟩
 rcases h.cases with ⟨rfl, k1⟩ | ⟨rfl, k1⟩
 rotate_left
 ·have H := ξ (show ¬ ξI n x.s from fun h => k1 h.2.2.2.1)
  clear h k1
  go_wp2_with fail
  try rw [Exit.noGoto_ret]
  go_ret
  exact ⟨_, rfl, G.out, ξ1.no H.out⟩
 have HBd := ξ (show In x.s.bound from k1)
 clear h k1
 go_wp2_with fail
 go_loopw [5] (fun i w9 => ∃ k : Nat, i = .int .i64 (k : Int) ∧ k ≤ x.name.length ∧ (∀ b ∈ x.name.take k, 32 ≤ b ∧ b ≤ 126) ∧ w9 = W) (fun i _ => x.name.length - (RowKit.intOf i).toNat)
 case atStart => exact ⟨0, rfl, Nat.zero_le _, fun b hb => by simp at hb, rfl⟩
 case round =>
  obtain ⟨k, rfl, hk, hq, rfl⟩ := hrel
  have HQ := ξ hq
  clear hq
  by_cases hlt : k < x.name.length
  ·have hlt' : (k : Int) < (x.name.length : Int) := by omega
   obtain ⟨c, hc⟩ : ∃ c, x.name[k] = c := ⟨_, rfl⟩
   have hi : ∀ h, (⟨x.name.toArray⟩ : ByteArray)[k]'h = c := fun h => by show x.name.toArray[k] = _; simp [hc]
   have HM := ξ (show c ∈ x.name by rw [← hc]; exact List.getElem_mem _)
   have HS := ξ (show x.name.take (k + 1) = x.name.take k ++ [c] by rw [List.take_succ_eq_append_getElem hlt, hc])
   clear hc
   have hk1 : IntKind.i64.wrap ((k : Int) + 1) = (k : Int) + 1 := by rw [IntKind.wrap_i64]; omega
   by_cases c1 : (c.toNat : Int) < 32
   ·have H := ξ (show ¬ ξI n x.s from fun h => by
     have := (h.2.2.2.2.1 c HM.out).1
     have := UInt8.le_iff_toNat_le.1 this
     simp at this
     omega)
    go_wp2_with fail
    try rw [Exit.noGoto_ret]
    go_ret
    exact ⟨_, rfl, G.out, ξ1.no H.out⟩
   ·by_cases c2 : (126 : Int) < (c.toNat : Int)
    ·have H := ξ (show ¬ ξI n x.s from fun h => by
      have := (h.2.2.2.2.1 c HM.out).2
      have := UInt8.le_iff_toNat_le.1 this
      simp at this
      omega)
     go_wp2_with fail
     try rw [Exit.noGoto_ret]
     go_ret
     exact ⟨_, rfl, G.out, ξ1.no H.out⟩
    ·have HC := ξ (show 32 ≤ c ∧ c ≤ 126 from ⟨UInt8.le_iff_toNat_le.2 (by simp; omega), UInt8.le_iff_toNat_le.2 (by simp; omega)⟩)
     have c1' : (32 : Int) ≤ (c.toNat : Int) := by omega
     have c2' : (c.toNat : Int) ≤ 126 := by omega
     clear c1 c2
     go_wp2_with fail
     refine ⟨⟨k + 1, by go_num, by omega, fun b hb => ?_, by first | rfl | trivial⟩, by simp [RowKit.intOf]; omega⟩
     rw [HS.out] at hb
     rcases List.mem_append.1 hb with hb | hb
     ·exact HQ.out b hb
     ·obtain rfl := List.mem_singleton.1 hb
      exact HC.out
  ·obtain rfl : k = x.name.length := by omega
   have HN := ξ (show ∀ b ∈ x.s.name, 32 ≤ b ∧ b ≤ 126 from fun b hb => HQ.out b (by rw [List.take_length]; exact hb))
   go_wp2_with fail
   clear x0 x1 x2 x3 x4
   go_loopw [6, 7] (fun i v w9 => ∃ k : Nat, i = .int .i64 (lastV x.terms k) ∧ v = .int .i64 (k : Int) ∧ k ≤ x.terms.length ∧ Inc n (-1) (x.terms.take k) ∧ Gr wr w9) (fun i v _ => x.terms.length - (RowKit.intOf v).toNat)
   case atStart => exact ⟨0, rfl, rfl, Nat.zero_le _, trivial, Gr.refl _⟩
   case round =>
    obtain ⟨k, rfl, rfl, hk, hq, hg⟩ := hrel
    have HQ := ξ hq
    have GL := ξ hg
    clear hq hg
    have y3 := (TX.out.grow GL.out).at 3 rfl
    by_cases hlt : k < x.terms.length
    ·have hlt' : (k : Int) < (x.terms.length : Int) := by omega
     obtain ⟨b, o, t, hp, ht, hc⟩ := ξ3h (SlL.grow HX.out GL.out) rfl hlt
     rw [hp] at y3
     obtain ⟨c0, c1⟩ := hc _ (Gr.refl _)
     have HT := ξ ht
     obtain ⟨lv, hlv⟩ : ∃ l, lastV x.terms k = l := ⟨_, rfl⟩
     rw [hlv]
     have HLV := ξ hlv
     clear hc ht hp hlv
     go_wp2_with fail
     any_goals (go_ret; refine ⟨_, rfl, (G.out.trans GL.out).alloc _, ξ1.no fun h => ξ44 HT.out (fun q => ?_) h.2.2.2.2.2⟩; rw [HLV.out] at q; omega)
     have HV := ξ (show lastV x.terms k < t.v ∧ t.v < (n : Int) ∧ t.c ≠ 0 from ⟨by rw [HLV.out]; omega, by omega, by assumption⟩)
     have B2 := ξ (ξ0.new wr #[.int .i64 t.v, .int .i64 t.c] 75)
     have G2 := ξ (GL.out.trans B2.out.1)
     have y4 := B2.out.2.at 0 rfl
     generalize wr.heap.size = bt at y4 ⊢
     generalize wr.alloc _ = W2 at G2 y4 ⊢
     clear B2 y3 c0 c1
     refine (ξ8m W2 t.c).mono ?_
     rintro _ _ ⟨r, rfl, rfl, h⟩
     rcases h.cases with ⟨rfl, k1⟩ | ⟨rfl, k1⟩
     ·have HK := ξ k1
      clear h k1
      have hk1 : IntKind.i64.wrap ((k : Int) + 1) = (k : Int) + 1 := by rw [IntKind.wrap_i64]; omega
      go_wp2_with fail
      any_goals (rename_i hh; exfalso; simp only [beq_iff_eq] at hh; omega)
      exact ⟨⟨k + 1, by rw [ξ53 HT.out], by go_num, by omega, ξ6t HT.out HQ.out HV.out.1 HV.out.2.1 HV.out.2.2 HK.out, G2.out⟩, by simp [RowKit.intOf]; omega⟩
     ·have H := ξ (show ¬ ξI n x.s from fun h => ξ44 HT.out (fun q => k1 q.2.2.2) h.2.2.2.2.2)
      clear h k1
      go_wp2_with fail
      try rw [Exit.noGoto_ret]
      go_ret
      exact ⟨_, rfl, G.out.trans G2.out, ξ1.no H.out⟩
    ·obtain rfl : k = x.terms.length := by omega
     go_wp2_with fail
     go_ret
     exact ⟨_, rfl, G.out.trans GL.out, ξ1.yes ⟨HA.out.1, HA.out.2.1, HA.out.2.2, HBd.out, HN.out, by have := HQ.out; rwa [List.take_length] at this⟩⟩
end Prf
end Go.Proofs.YtcjgimlcefhhmaaGreatDoor

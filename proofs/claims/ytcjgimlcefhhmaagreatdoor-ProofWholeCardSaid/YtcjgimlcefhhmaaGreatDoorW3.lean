/- Texts: LeafE. -/
import Derived.Test.YtcjgimlcefhhmaaGreatDoorW2
set_option linter.unusedVariables false
set_option linter.unusedSimpArgs false
set_option maxRecDepth 100000
set_option maxHeartbeats 12800000
namespace Go.Proofs.YtcjgimlcefhhmaaGreatDoor
open Go.RowKit
theorem ξ1R (w : World) (va vb : Value) (la lb : List Nat) (ha : NatL w va la) (hb : NatL w vb lb) (hla : la.length ≤ 35184372088832) (hlb : lb.length ≤ 35184372088832) :
  Calls Tryz.prog 174 #[va, vb] w fun e w' => e = .returned (.int .i64 (cmpZ (nval la) (nval lb))) ∧ w = w' := by
 have HA := ξ ha
 have HB := ξ hb
 obtain ⟨p, c, rfl, a1, a2, a3⟩ := ha.parts
 obtain ⟨q, d, rfl, b1, b2, b3⟩ := hb.parts
 have A3 := ξ a3
 have B3 := ξ b3
 clear ha hb a3 b3
 obtain ⟨na, hna⟩ : ∃ n, la.length = n := ⟨_, rfl⟩
 obtain ⟨nb, hnb⟩ : ∃ n, lb.length = n := ⟨_, rfl⟩
 rw [hna] at HA a1 hla ⊢
 rw [hnb] at HB b1 hlb ⊢
 have Hna := ξ hna
 have Hnb := ξ hnb
 clear hna hnb
 obtain ⟨m, hm1, hm2, hmm, hcase⟩ : ∃ m : Nat, na ≤ m ∧ nb ≤ m ∧ m ≤ 35184372088832 ∧ (m = nb ∧ na < nb ∨ m = na ∧ nb ≤ na) := by
  rcases Nat.lt_or_ge na nb with h | h
  ·exact ⟨nb, by omega, by omega, by omega, .inl ⟨rfl, by omega⟩⟩
  ·exact ⟨na, by omega, by omega, by omega, .inr ⟨rfl, h⟩⟩
 have HD0 := ξ (show nval (la.drop m) = nval (lb.drop m) by rw [List.drop_eq_nil_of_le (by rw [Hna.out]; exact hm1), List.drop_eq_nil_of_le (by rw [Hnb.out]; exact hm2)])
 rcases hcase with ⟨rfl, hc⟩ | ⟨rfl, hc⟩
 all_goals
  go_enter Tryz.func174, Tryz.ntmps174
  go_wp2_with fail
  go_loopw [5] (fun i w1 => ∃ k : Nat, k ≤ m ∧ i = .int .i64 ((k : Int) - 1) ∧ nval (la.drop k) = nval (lb.drop k) ∧ w = w1) (fun i _ => ((intOf i) + 1).toNat)
  case atStart => exact ⟨m, Nat.le_refl _, rfl, HD0.out, rfl⟩
  case round =>
   obtain ⟨k, hk, rfl, hp, rfl⟩ := hrel
   have Hp := ξ hp
   clear hp
   by_cases hk0 : k = 0
   ·obtain rfl := hk0
    go_wp2_with fail
    go_ret
    have h0 : nval la = nval lb := by simpa using Hp.out
    rw [ξbN h0]
    exact ⟨rfl, rfl⟩
   ·obtain ⟨j, rfl⟩ : ∃ j, k = j + 1 := ⟨k - 1, by omega⟩
    have e1 := ξ (show ((j + 1 : Nat) : Int) - 1 = (j : Int) by omega)
    rw [e1.out]
    go_wp2_with fail
    refine (ξ0c _ _ la j HA.out (by omega)).mono ?_
    rintro _ _ ⟨rfl, rfl⟩
    go_wp2_with fail
    refine (ξ0c _ _ lb j HB.out (by omega)).mono ?_
    rintro _ _ ⟨rfl, rfl⟩
    rcases Nat.lt_trichotomy (gd la j) (gd lb j) with hd | hd | hd
    ·have hv := ξ (ξ5x (ξ2G A3.out B3.out Hp.out hd))
     go_wp2_with fail
     go_ret
     rw [hv.out]
     exact ⟨rfl, rfl⟩
    ·have hv := ξ (ξ7u Hp.out hd)
     have h1 : ¬ gd la j < gd lb j := by omega
     have h2 : ¬ gd lb j < gd la j := by omega
     clear hd
     go_wp2_with fail
     exact ⟨⟨j, by omega, rfl, hv.out, trivial⟩, by simp [intOf]⟩
    ·have hv := ξ (ξbQ (ξ2G B3.out A3.out Hp.out.symm hd))
     have h1 : ¬ gd la j < gd lb j := by omega
     go_wp2_with fail
     go_ret
     rw [hv.out]
     exact ⟨rfl, rfl⟩
def ξ6Y (fn : Nat) (D C : Nat → Nat → Nat → Nat) : Prop :=
 ∀ (w : World) (x y c : Nat), x < BB → y < BB → c ≤ 1 → D x y c < BB ∧ C x y c ≤ 1 ∧
  Calls Tryz.prog fn #[.int .u64 x, .int .u64 y, .int .u64 c] w fun e w' => e = .returned (.tuple #[.int .u32 (D x y c), .int .u64 (C x y c)]) ∧ w = w'
theorem ξ4p (w : World) (va vb : Value) (la lb : List Nat) (ha : NatL w va la) (hb : NatL w vb lb) (hla : la.length ≤ 17592186044416) (hlb : lb.length ≤ 17592186044416)
  (fn : Nat) (hfn : fn = 250 ∨ fn = 284) (D C : Nat → Nat → Nat → Nat) (hf : ξ6Y fn D C) (I : Nat → List Nat → Nat → Prop) (hI0 : I 0 [] 0)
  (hI : ∀ k l c, I k l c → l.length = k → c ≤ 1 → I (k + 1) (l ++ [D (gd la k) (gd lb k) c]) (C (gd la k) (gd lb k) c)) :
  Calls Tryz.prog 249 #[va, vb, .func (.func fn) #[] #[]] w (Ret w fun r w' => ∃ l c, I (max la.length lb.length + 1) l c ∧ l.length = max la.length lb.length + 1 ∧ Dig l ∧ c ≤ 1 ∧ NatL w' r (trimL l)) := by
 have HA := ξ ha
 have HB := ξ hb
 obtain ⟨p, c, rfl, a1, a2, a3⟩ := ha.parts
 obtain ⟨q, d, rfl, b1, b2, b3⟩ := hb.parts
 have A3 := ξ a3
 have B3 := ξ b3
 have HF := ξ hf
 have HI0 := ξ hI0
 have HI := ξ hI
 clear ha hb a3 b3 hf hI hI0
 obtain ⟨na, hna⟩ : ∃ n, la.length = n := ⟨_, rfl⟩
 obtain ⟨nb, hnb⟩ : ∃ n, lb.length = n := ⟨_, rfl⟩
 rw [hna] at HA a1 hla ⊢
 rw [hnb] at HB b1 hlb ⊢
 have Hna := ξ hna
 have Hnb := ξ hnb
 clear hna hnb
 obtain ⟨m, hm1, hm2, hmm, hcase⟩ : ∃ m : Nat, na ≤ m ∧ nb ≤ m ∧ m ≤ 17592186044416 ∧ (m = nb ∧ na < nb ∨ m = na ∧ nb ≤ na) := by
  rcases Nat.lt_or_ge na nb with h | h
  ·exact ⟨nb, by omega, by omega, by omega, .inl ⟨rfl, by omega⟩⟩
  ·exact ⟨na, by omega, by omega, by omega, .inr ⟨rfl, h⟩⟩
 have hmax : max na nb = m := by omega
 rw [hmax]
 clear hmax
 rcases hcase with ⟨rfl, hc⟩ | ⟨rfl, hc⟩
 all_goals rcases hfn with rfl | rfl
 all_goals
  go_enter Tryz.func249, Tryz.ntmps249
  go_wp2_with fail
  go_loopw [7, 8, 17] (fun v cr i w1 => ∃ (k : Nat) (l : List Nat) (c : Nat), k ≤ m + 1 ∧ i = .int .i64 k ∧ OwnN w1 w.heap.size v l ∧ l.length = k ∧ cr = .int .u64 c ∧ c ≤ 1 ∧ I k l c ∧ Own w.heap.size w w1) (fun _ _ i _ => m + 1 - (intOf i).toNat)
  case atStart => exact ⟨0, [], 0, by omega, rfl, OwnN.nil w _, rfl, rfl, by omega, HI0.out, Own.refl _ _⟩
  case round =>
   obtain ⟨k, l, cr, hk, rfl, hown, hl, rfl, hcr, hi, ho⟩ := hrel
   have Hown := ξ hown
   have Hl := ξ hl
   have Hi := ξ hi
   have Ho := ξ ho
   have Hb := ξ (show w.heap.size ≤ wr.heap.size from ho.size)
   clear hown hl hi ho
   by_cases hlt : k < m + 1
   ·have ga := A3.out.gd k
    have gb := B3.out.gd k
    obtain ⟨d1, d2, d3⟩ := HF.out wr _ _ cr ga gb hcr
    have D3 := ξ d3
    have D1 := ξ d1
    clear d3 d1
    rw [ξ5] at ga gb
    go_wp2_with fail
    refine (ξ0c _ _ la k (HA.out.own rfl Ho.out) (by omega)).mono ?_
    rintro _ _ ⟨rfl, rfl⟩
    go_wp2_with fail
    refine (ξ0c _ _ lb k (HB.out.own rfl Ho.out) (by omega)).mono ?_
    rintro _ _ ⟨rfl, rfl⟩
    go_wp2_with fail
    refine D3.out.mono ?_
    rintro _ _ ⟨rfl, rfl⟩
    go_wp2_with (at_builtin; go_must (refine ξ1X rfl _ _ 64 rfl (by kernel_rfl) w.heap.size _ (.slice (some ⟨wr.heap.size, 0, none⟩) 1 1) l [D (gd la k) (gd lb k) cr] rfl (Hown.out.grow ((Gr.refl wr).alloc _)) rfl (NatL.one wr _ _ rfl D1.out _) (by rw [Hl.out]; simp; omega) (Nat.le_trans Hb.out (by simp)) ?_; intro v' w' hown' hgrow hb'))
    refine ⟨⟨k + 1, l ++ [D (gd la k) (gd lb k) cr], _, by omega, by go_num, hown', by rw [List.length_append, Hl.out]; rfl, rfl, d2, HI.out k l cr Hi.out Hl.out hcr, ?_⟩, by simp [intOf]; omega⟩
    exact (Ho.out.trans (Own.of_gr ((Gr.refl wr).alloc _) Hb.out)).trans hgrow
   ·obtain rfl : k = m + 1 := by omega
    go_wp2_with fail
    refine (ξ09 _ _ l Hown.out.read).mono ?_
    rintro _ _ ⟨⟨r, kk, rfl, hr⟩, rfl⟩
    have Hr := ξ hr
    clear hr
    go_wp2_with fail
    go_ret
    exact ⟨_, rfl, Ho.out.gr, l, cr, Hi.out, Hl.out, Hown.out.2, hcr, Hr.out⟩
theorem ξau : ξ6Y 250 (fun x y c => (x + y + c) % BB) (fun x y c => (x + y + c) / BB) := by
 intro w x y c hx hy hc
 have hx' := hx
 have hy' := hy
 rw [ξ5] at hx' hy'
 refine ⟨Nat.mod_lt _ ξv, (by show (x + y + c) / BB ≤ 1; rw [ξ5]; omega), ?_⟩
 show Calls _ _ _ _ fun e w' => e = .returned (.tuple #[.int .u32 ((x + y + c) % BB : Nat), .int .u64 ((x + y + c) / BB : Nat)]) ∧ w = w'
 have E1 := ξ (show ((x : Int) + y + c) % 4294967296 = (((x + y + c) % BB : Nat) : Int) by rw [ξ5]; omega)
 have E2 := ξ (show ((x : Int) + y + c) / 4294967296 = (((x + y + c) / BB : Nat) : Int) by rw [ξ5]; omega)
 clear hx hy
 go_enter Tryz.func250, Tryz.ntmps250
 go_wp2
 go_ret2
 exact ⟨by rw [← E1.out, ← E2.out]; rfl, rfl⟩
theorem ξ4I {x y c : Nat} (hx : x < 4294967296) (hy : y < 4294967296) (hc : c ≤ 1) (h : x < y + c) :
  IntKind.u64.wrap (IntKind.u64.wrap ((x : Int) - y) - c) % 4294967296 = (((BB + x - y - c) % BB : Nat) : Int) ∧ IntKind.u64.wrap (IntKind.u64.wrap ((x : Int) - y) - c) / 9223372036854775808 = ((1 : Nat) : Int) := by
 simp only [IntKind.wrap_u64, ξ5]
 omega
theorem ξ3W {x y c : Nat} (hx : x < 4294967296) (hy : y < 4294967296) (hc : c ≤ 1) (h : ¬ x < y + c) :
  ((x : Int) - y - c) = (((BB + x - y - c) % BB : Nat) : Int) ∧ ((x : Int) - y - c) / 9223372036854775808 = ((0 : Nat) : Int) := by
 simp only [ξ5]
 omega
theorem ξa7 : ξ6Y 284 (fun x y c => (BB + x - y - c) % BB) (fun x y c => if x < y + c then 1 else 0) := by
 intro w x y c hx hy hc
 refine ⟨Nat.mod_lt _ ξv, (by show (if x < y + c then 1 else 0) ≤ 1; split <;> omega), ?_⟩
 show Calls _ _ _ _ fun e w' => e = .returned (.tuple #[.int .u32 ((BB + x - y - c) % BB : Nat), .int .u64 ((if x < y + c then 1 else 0 : Nat) : Int)]) ∧ w = w'
 rw [ξ5] at hx hy
 by_cases h : x < y + c
 ·rw [if_pos h]
  go_enter Tryz.func284, Tryz.ntmps284
  go_wp2
  go_ret2
  exact ⟨by rw [← (ξ4I hx hy hc h).1, ← (ξ4I hx hy hc h).2]; rfl, rfl⟩
 ·rw [if_neg h]
  go_enter Tryz.func284, Tryz.ntmps284
  go_wp2
  go_ret2
  exact ⟨by rw [← (ξ3W hx hy hc h).1, ← (ξ3W hx hy hc h).2]; rfl, rfl⟩
end Go.Proofs.YtcjgimlcefhhmaaGreatDoor

/-
  exodusref01.Bit, DivMod.
-/
import Derived.Test.YtmcgkglmlfbijaaGreatDoorNatA
import Derived.Test.YtmcgkglmlfbijaaGreatDoorNumE
namespace Go.Proofs.YtmcgkglmlfbijaaGreatDoor
open Go.RowKit Go.Lib
set_option linter.unusedVariables false
set_option linter.unusedSimpArgs false

theorem BB_two : BB = 2 ^ 32 := by rw [BB_eq]
theorem nval_div {l : List Nat} (h : Dig l) {j : Nat} (hj : j ≤ l.length) : nval l / BB ^ j = nval (l.drop j) := by
  have h1 := nval_split l j
  rw [Nat.min_eq_left hj] at h1
  have h2 := nval_lt (l.take j) (h.take j)
  rw [List.length_take, Nat.min_eq_left hj] at h2
  rw [h1, Nat.add_mul_div_left _ _ (Nat.pow_pos BB_pos), Nat.div_eq_of_lt h2, Nat.zero_add]
theorem bit_at {l : List Nat} (h : Dig l) {j k : Nat} (hj : j < l.length) (hk : k < 32) : nval l / 2 ^ (32 * j + k) % 2 = gd l j / 2 ^ k % 2 := by
  have e : (2 : Nat) ^ (32 * j + k) = BB ^ j * 2 ^ k := by rw [Nat.pow_add, Nat.pow_mul, BB_two]
  rw [e, ← Nat.div_div_eq_div_mul, nval_div h (Nat.le_of_lt hj), nval_drop]
  have e2 : BB = 2 ^ k * (2 * 2 ^ (31 - k)) := by
    rw [BB_two, ← Nat.pow_succ', ← Nat.pow_add]
    congr 1
    omega
  rw [e2, Nat.mul_assoc, Nat.add_mul_div_left _ _ (Nat.two_pow_pos k), Nat.mul_assoc, Nat.add_mul_mod_self_left]
theorem and_one (d : Nat) (h : d < 4294967296) : bits .and .u32 (d : Int) 1 = ((d % 2 : Nat) : Int) := by
  have h1 := (bits_nat .u32 32 (by decide) (fun n h0 h1 => by simp [IntKind.wrap, IntKind.bits, IntKind.signed]; omega) d 1 (by omega) (by decide)).1
  rw [Nat.and_one_is_mod] at h1
  exact h1

set_option maxRecDepth 100000 in
set_option maxHeartbeats 800000 in
theorem ref_Bit (w : World) (v : Value) (l : List Nat) (i : Nat) (h : NatL w v l) (hi : i < 32 * l.length) (hl : l.length ≤ 1000000) :
    Calls Tryz.prog 130 #[v, .int .i64 i] w (Ret w fun r w' => r = .int .u32 ((nval l / 2 ^ i % 2 : Nat))) := by
  have HA := Lib.hid h
  obtain ⟨h0, p, c, rfl, h1, h2, h3⟩ := h
  rcases h3 with ⟨rfl, h4⟩ | ⟨b, off, rfl, hcell⟩
  · omega
  obtain ⟨n, hn⟩ : ∃ n, l.length = n := ⟨_, rfl⟩
  rw [hn] at hi hl h1 HA
  obtain ⟨j, hj⟩ : ∃ j, i / 32 = j := ⟨_, rfl⟩
  obtain ⟨k, hk⟩ : ∃ k, i % 32 = k := ⟨_, rfl⟩
  have hjn : j < n := by omega
  have hk32 : k < 32 := by omega
  have E1 : (i : Int) / 32 = (j : Int) := by omega
  have E2 : (i : Int) % 32 = (k : Int) := by omega
  have E3 : (i : Int).tdiv 32 = (j : Int) := by rw [Int.tdiv_eq_ediv_of_nonneg (by omega)]; exact E1
  have E4 : (i : Int).tmod 32 = (k : Int) := by rw [Int.tmod_eq_emod_of_nonneg (by omega)]; exact E2
  have cell := hcell j (by rw [hn]; exact hjn)
  have hg := h0.gd j
  obtain ⟨d, hd⟩ : ∃ d, gd l j = d := ⟨_, rfl⟩
  rw [hd] at cell hg
  rw [BB_eq] at hg
  simp only [hn]
  have hbit : nval l / 2 ^ i % 2 = d / 2 ^ k % 2 := by
    have := bit_at h0 (j := j) (k := k) (by rw [hn]; exact hjn) hk32
    rw [show 32 * j + k = i by omega, hd] at this
    exact this
  have Hbit := Lib.hid hbit
  have EA := and_one (d / 2 ^ k) (Nat.lt_of_le_of_lt (Nat.div_le_self _ _) hg)
  rw [Int.natCast_ediv, Int.natCast_pow] at EA
  have Hn := Lib.hid hn
  have Hd := Lib.hid hd
  clear hcell hn hd h0 hbit
  go_enter Tryz.func130, Tryz.ntmps130
  go_wp2_with fail
  go_ret
  exact ⟨_, rfl, Gr.refl _, by rw [Hbit.out]; exact congrArg _ EA⟩
set_option maxHeartbeats 800000 in
theorem ref_TrimO (w : World) (v : Value) (l : List Nat) (h : NatL w v l) (hlen : l.length ≤ 35184372088832) :
    Calls Tryz.prog 99 #[v] w (Ret w fun r w' => OwnN w' w.heap.size r (trimL l)) := by
  have HA := Lib.hid h
  obtain ⟨h0, p, c, rfl, h1, h2, -⟩ := h
  have H0 := Lib.hid h0
  obtain ⟨n, hn⟩ : ∃ n, l.length = n := ⟨_, rfl⟩
  have Hn := Lib.hid hn
  rw [hn] at h1 hlen ⊢
  rw [hn] at HA
  clear hn h0
  go_enter Tryz.func99, Tryz.ntmps99
  go_wp2
  go_loopw [3] (fun i w1 => ∃ k : Nat, k ≤ n ∧ i = .int .i64 k ∧ trimL (l.take k) = trimL l ∧ w1 = w) (fun i _ => (RowKit.intOf i).toNat)
  case atStart => exact ⟨n, Nat.le_refl _, rfl, by rw [List.take_of_length_le (by rw [Hn.out]; exact Nat.le_refl _)], rfl⟩
  case round =>
    obtain ⟨k, hk, rfl, hp, rfl⟩ := hrel
    have Hp := Lib.hid hp; clear hp
    have hbase : wr.heap.size ≤ (wr.alloc (.cells #[] 64)).heap.size := by simp
    by_cases hk0 : k = 0
    · obtain rfl := hk0
      have ht := Lib.hid (trim_none Hp.out)
      go_wp2_with (at_builtin; refine wpList_appendN rfl _ _ 23 rfl (by kernel_rfl) wr.heap.size _ (.slice p 0 c) [] (l.take 0) rfl (OwnN.made0 wr _ (Nat.le_refl _)) rfl ((HA.out.take 0 c (by omega) (by omega) (Nat.le_refl _)).grow ((Gr.refl wr).alloc _)) (by simp) hbase ?_; intro v' w' hown' hgrow hb')
      go_ret
      refine ⟨_, rfl, ((Gr.refl _).alloc _).own hgrow, ?_⟩
      rw [← ht.out]; exact hown'
    · obtain ⟨j, rfl⟩ : ∃ j, k = j + 1 := ⟨k - 1, by omega⟩
      obtain ⟨b, o, rfl, hc⟩ := HA.out.at j (by rw [Hn.out]; omega)
      by_cases hd : gd l j = 0
      · have e0 : ((gd l j : Int) == 0) = true := by rw [hd]; rfl
        have Hd := Lib.hid hd; clear hd
        go_wp2
        go_roundw
        case rel =>
          exact ⟨j, by omega, rfl, trim_step (by rw [Hn.out]; omega) Hp.out Hd.out, trivial⟩
        case measure => simp [RowKit.intOf]
      · have e0 : ((gd l j : Int) == 0) = false := by simpa using hd
        have Hd := Lib.hid hd; clear hd
        go_wp2_with (at_builtin; refine wpList_appendN rfl _ _ 23 rfl (by kernel_rfl) wr.heap.size _ (.slice _ (j + 1) c) [] (l.take (j + 1)) rfl (OwnN.made0 wr _ (Nat.le_refl _)) rfl ((HA.out.take (j + 1) c (by rw [Hn.out]; omega) (by omega) (Nat.le_refl _)).grow ((Gr.refl wr).alloc _)) (by rw [List.length_take]; simp; omega) hbase ?_; intro v' w' hown' hgrow hb')
        go_ret
        refine ⟨_, rfl, ((Gr.refl _).alloc _).own hgrow, ?_⟩
        rw [← trim_last H0.out (by rw [Hn.out]; omega) Hp.out Hd.out]; exact hown'

set_option maxHeartbeats 1600000 in
theorem ref_SubO (w : World) (va vb : Value) (la lb : List Nat) (ha : NatL w va la) (hb : NatL w vb lb) (hla : la.length ≤ 17592186044416) (hlb : lb.length ≤ 17592186044416) (hle : nval lb ≤ nval la) :
    Calls Tryz.prog 58 #[va, vb] w (Ret w fun r w' => ∃ x, r = .tuple #[x, .int .i64 0] ∧ NatL w' x (digs (nval la - nval lb)) ∧ ∀ g, g < w.heap.size → NotIn g x) := by
  have HA := Lib.hid ha
  have HB := Lib.hid hb
  have hc0 : ¬ cmpZ (nval la) (nval lb) < 0 := by rw [cmpZ_neg_iff]; omega
  obtain ⟨cz, hcz⟩ : ∃ cz, cmpZ (nval la) (nval lb) = cz := ⟨_, rfl⟩
  rw [hcz] at hc0
  have Hcz := Lib.hid hcz
  have Hle := Lib.hid hle
  obtain ⟨p, c, rfl, a1, a2, a3⟩ := ha.parts
  have A3 := Lib.hid a3
  have B3 := Lib.hid hb.dig
  obtain ⟨na, hna⟩ : ∃ n, la.length = n := ⟨_, rfl⟩
  rw [hna] at HA a1 ⊢
  have Hna := Lib.hid hna
  have Hla := Lib.hid hla
  have hna' : na ≤ 17592186044416 := by omega
  clear ha hb a3 hle hcz hna hla
  go_enter Tryz.func58, Tryz.ntmps58
  go_wp2_with fail
  refine (ref_Cmp _ _ vb la lb HA.out HB.out (Nat.le_trans Hla.out (by omega)) (by omega)).mono ?_
  rintro _ w1 ⟨_, rfl, g1, rfl⟩
  rw [Hcz.out]
  have HA1 := Lib.hid (HA.out.grow g1)
  have HB1 := Lib.hid (HB.out.grow g1)
  have G1 := Lib.hid g1
  clear HA HB g1
  go_wp2_with fail
  go_loopw [6, 7, 8] (fun v cr i w2 => ∃ (k : Nat) (l : List Nat) (c : Nat), k ≤ na ∧ i = .int .i64 k ∧ OwnN w2 w1.heap.size v l ∧ l.length = k ∧ cr = .int .u64 c ∧ c ≤ 1 ∧
      nval l + nval (lb.take k) = nval (la.take k) + BB ^ k * c ∧ Own w1.heap.size w1 w2) (fun _ _ i _ => na - (RowKit.intOf i).toNat)
  case atStart =>
    exact ⟨0, [], 0, by omega, rfl, OwnN.made0 w1 _ (Nat.le_refl _), rfl, rfl, by omega, by simp [nval], Own.of_gr ((Gr.refl w1).alloc _) (Nat.le_refl _)⟩
  case round =>
    obtain ⟨k, l, cr, hk, rfl, hown, hl, rfl, hc, hv, ho⟩ := hrel
    have Hown := Lib.hid hown
    have Hl := Lib.hid hl
    have Hv := Lib.hid hv
    have Ho := Lib.hid ho
    have Hb := Lib.hid (show w1.heap.size ≤ wr.heap.size from ho.size)
    clear hown hl hv ho
    by_cases hka : k < na
    · have ga := A3.out.gd k
      have gb := B3.out.gd k
      rw [BB_eq] at ga gb
      obtain ⟨x, hx⟩ : ∃ x, x = 4294967296 + gd la k - gd lb k - cr := ⟨_, rfl⟩
      have Hx := Lib.hid (show x + gd lb k + cr = BB + gd la k by rw [BB_eq]; omega)
      have E1 := Lib.hid (show ((4294967296 : Int) + gd la k - gd lb k - cr) % 4294967296 = ((x % BB : Nat) : Int) by rw [hx, BB_eq]; omega)
      have E2 := Lib.hid (show 1 - ((4294967296 : Int) + gd la k - gd lb k - cr) / 4294967296 = ((1 - x / BB : Nat) : Int) by rw [hx, BB_eq]; omega)
      have hs1 := Lib.hid (show x / BB ≤ 1 by rw [hx, BB_eq]; omega)
      clear hx
      go_wp2_with fail
      refine (ref_digit _ _ la k (HA1.out.own rfl Ho.out) (by omega)).mono ?_
      rintro _ _ ⟨rfl, rfl⟩
      go_wp2_with fail
      refine (ref_digit _ _ lb k (HB1.out.own rfl Ho.out) (by omega)).mono ?_
      rintro _ _ ⟨rfl, rfl⟩
      go_wp2_with (at_builtin; go_must (refine wpList_appendN rfl _ _ 23 rfl (by kernel_rfl) w1.heap.size _ (.slice (some ⟨wr.heap.size, 0, none⟩) 1 1) l [x % BB] rfl (Hown.out.grow ((Gr.refl wr).alloc _)) rfl (NatL.one wr _ (x % BB) E1.out (Nat.mod_lt _ BB_pos) _) (by rw [Hl.out]; simp; omega) (Nat.le_trans Hb.out (by simp)) ?_; intro v' w' hown' hgrow hb'))
      refine ⟨⟨k + 1, l ++ [x % BB], 1 - x / BB, by omega, by go_num, hown', by rw [List.length_append, Hl.out]; rfl, by rw [E2.out], Nat.sub_le _ _, sub_round Hl.out Hv.out Hx.out hs1.out, ?_⟩, by simp [RowKit.intOf]; omega⟩
      exact (Ho.out.trans (Own.of_gr ((Gr.refl wr).alloc _) Hb.out)).trans hgrow
    · obtain rfl : k = na := by omega
      go_wp2_with fail
      refine (ref_TrimO _ u6 _ Hown.out.read (by rw [Hl.out]; omega)).mono ?_
      rintro _ w2 ⟨r, rfl, g2, hr0⟩
      have hr := hr0.read
      have hfr : ∀ g, g < w.heap.size → NotIn g r := fun g hg b o n c e => by
        subst e
        have h1 := (hr0.lt b rfl).1
        have h2 := Ho.out.size
        have h3 := G1.out.size
        omega
      go_wp2
      go_ret2
      refine ⟨_, rfl, (G1.out.trans Ho.out.gr).trans g2, _, rfl, ?_, hfr⟩
      have h1 := Hv.out
      rw [List.take_of_length_le (l := la) (by rw [Hna.out]; omega), ← Hna.out] at h1
      rw [← sub_end A3.out (by rw [Hl.out, Hna.out]) Hown.out.2 h1 Hle.out hc]
      exact hr
end Go.Proofs.YtmcgkglmlfbijaaGreatDoor

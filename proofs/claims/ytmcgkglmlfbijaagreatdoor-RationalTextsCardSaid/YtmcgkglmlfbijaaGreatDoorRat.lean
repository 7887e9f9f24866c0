/-
  Fractions: plain laws (no program in sight).
-/
import Derived.Test.YtmcgkglmlfbijaaGreatDoorIntI
namespace Go.Proofs.YtmcgkglmlfbijaaGreatDoor
open Go.RowKit
set_option linter.unusedVariables false
set_option linter.unusedSimpArgs false

/-- the denominator that digits stand for: 0 stands for 1 -/
def denV (d : List Nat) : Nat := if nval d = 0 then 1 else nval d
/-- the digits of a denominator in its only form -/
def dd (k : Nat) : List Nat := if k = 1 then [] else digs k
/-- the value of a fraction's parts -/
def ratv (n : Bool) (l d : List Nat) : Rat := mkRat (zval n l) (denV d)
def cmpQ (x y : Rat) : Int := if x < y then -1 else if x = y then 0 else 1
/-- numerator and denominator have at most L digits -/
def Sz (L : Nat) (x : Rat) : Prop := (digs x.num.natAbs).length ≤ L ∧ (digs x.den).length ≤ L

theorem denV_ne (d : List Nat) : denV d ≠ 0 := by unfold denV; split <;> omega
theorem denV_nil : denV [] = 1 := rfl
theorem denV_dd {k : Nat} (h : k ≠ 0) : denV (dd k) = k := by
  unfold dd
  by_cases h1 : k = 1
  · rw [if_pos h1, h1]; rfl
  · rw [if_neg h1]
    unfold denV
    rw [nval_digs, if_neg h]
theorem dd_inj {j k : Nat} (hj : j ≠ 0) (hk : k ≠ 0) (h : dd j = dd k) : j = k := by
  rw [← denV_dd hj, ← denV_dd hk, h]
theorem zval_digsR (z : Int) : zval (decide (z < 0)) (digs z.natAbs) = z := by
  unfold zval
  rw [nval_digs]
  split <;> rename_i h <;> simp at h <;> omega
theorem ratv_can (x : Rat) : ratv (decide (x.num < 0)) (digs x.num.natAbs) (dd x.den) = x := by
  unfold ratv
  rw [zval_digsR, denV_dd x.den_nz, Rat.mkRat_self]
theorem dd_len {k L : Nat} (h : (digs k).length ≤ L) : (dd k).length ≤ L := by
  unfold dd
  split
  · exact Nat.zero_le _
  · exact h
theorem dd_dig (k : Nat) : Dig (dd k) := by
  unfold dd
  split
  · exact fun x hx => by cases hx
  · exact Dig.digs k

/-- the parts of the lowest form -/
theorem low_num (z : Int) (d : Nat) (hd : d ≠ 0) : (mkRat z d).num = z / (Nat.gcd z.natAbs d : Nat) := by
  rw [Rat.num_mkRat, if_neg hd, Nat.gcd_comm]
theorem low_den (z : Int) (d : Nat) (hd : d ≠ 0) : (mkRat z d).den = d / Nat.gcd z.natAbs d := by
  rw [Rat.den_mkRat, if_neg hd, Nat.gcd_comm]
theorem low_natAbs (z : Int) (d : Nat) (hd : d ≠ 0) : (mkRat z d).num.natAbs = z.natAbs / Nat.gcd z.natAbs d := by
  rw [low_num z d hd]
  have h1 : Nat.gcd z.natAbs d ∣ z.natAbs := Nat.gcd_dvd_left _ _
  have hg : 0 < Nat.gcd z.natAbs d := Nat.gcd_pos_of_pos_right _ (by omega)
  obtain ⟨k, hk⟩ := h1
  generalize Nat.gcd z.natAbs d = g at hk hg ⊢
  rw [hk, Nat.mul_div_cancel_left _ hg]
  have h2 : z = g * (if z < 0 then -(k : Int) else k) := by
    split
    · have : z = -(z.natAbs : Int) := by omega
      rw [this, hk]; simp [Int.mul_neg]
    · have : z = (z.natAbs : Int) := by omega
      rw [this, hk]; simp
  have h3 : z / (g : Int) = if z < 0 then -(k : Int) else k := by
    conv => lhs; rw [h2]
    exact Int.mul_ediv_cancel_left _ (by omega)
  rw [h3]
  split <;> omega
theorem low_neg (z : Int) (d : Nat) (hd : d ≠ 0) : ((mkRat z d).num < 0) ↔ z < 0 := by
  have hg : 0 < Nat.gcd z.natAbs d := Nat.gcd_pos_of_pos_right _ (by omega)
  obtain ⟨k, hk⟩ : (Nat.gcd z.natAbs d : Int) ∣ z := Int.ofNat_dvd_left.2 (Nat.gcd_dvd_left _ _)
  rw [low_num z d hd]
  generalize Nat.gcd z.natAbs d = g at hk hg ⊢
  subst hk
  rw [Int.mul_ediv_cancel_left _ (by omega)]
  constructor
  · intro h
    exact Int.mul_neg_of_pos_of_neg (by omega) h
  · intro h
    by_cases hk : k < 0
    · exact hk
    · have := Int.mul_nonneg (a := (g : Int)) (b := k) (by omega) (by omega)
      omega
/-- truncated division by the common factor -/
theorem quo_low (z : Int) (d : Nat) (hd : d ≠ 0) : quoZ false z (Nat.gcd z.natAbs d : Nat) = (mkRat z d).num := by
  have hg : 0 < Nat.gcd z.natAbs d := Nat.gcd_pos_of_pos_right _ (by omega)
  have h1 := low_natAbs z d hd
  have h2 := low_neg z d hd
  have h3 : Nat.gcd z.natAbs d ∣ z.natAbs := Nat.gcd_dvd_left _ _
  generalize Nat.gcd z.natAbs d = g at h1 hg h3 ⊢
  unfold quoZ
  have hs : (sgn z * sgn (g : Int) < 0) ↔ z < 0 := by
    have : sgn (g : Int) = 1 := by unfold sgn; rw [if_neg (by omega), if_neg (by omega)]
    rw [this]
    unfold sgn
    split
    · simp; omega
    · split <;> simp <;> omega
  simp only [Bool.false_and, Int.natAbs_natCast, Bool.false_eq_true, if_false, Nat.add_zero]
  rw [← h1]
  by_cases hz : z < 0
  · rw [if_pos (hs.2 hz)]
    have := h2.2 hz
    omega
  · rw [if_neg (fun h => hz (hs.1 h))]
    have := fun h => hz (h2.1 h)
    omega
theorem quo_lowD (z : Int) (d : Nat) (hd : d ≠ 0) : quoZ false (d : Int) (Nat.gcd z.natAbs d : Nat) = ((mkRat z d).den : Int) := by
  have hg : 0 < Nat.gcd z.natAbs d := Nat.gcd_pos_of_pos_right _ (by omega)
  rw [low_den z d hd]
  generalize Nat.gcd z.natAbs d = g at hg ⊢
  unfold quoZ
  have hs : ¬ (sgn (d : Int) * sgn (g : Int) < 0) := by
    have h1 : sgn (g : Int) = 1 := by unfold sgn; rw [if_neg (by omega), if_neg (by omega)]
    have h2 : sgn (d : Int) = 1 := by unfold sgn; rw [if_neg (by omega), if_neg (by omega)]
    rw [h1, h2]; decide
  simp only [Bool.false_and, Int.natAbs_natCast, Bool.false_eq_true, if_false, Nat.add_zero]
  rw [if_neg hs]
theorem mk_neg (z : Int) (d : Nat) : mkRat (-z) d = -mkRat z d := (Rat.neg_mkRat z d).symm
/-- a quotient of integers, the second not 0, as the fraction with a positive denominator -/
theorem divInt_pos {a b : Int} (h : 0 < b) : Rat.divInt a b = mkRat a b.natAbs := by
  rw [← Rat.divInt_ofNat]
  congr 1
  omega
theorem divInt_neg {a b : Int} (h : b < 0) : Rat.divInt a b = mkRat (-a) b.natAbs := by
  rw [← Rat.divInt_ofNat, ← Rat.neg_divInt_neg]
  congr 1
  omega

theorem add_mk (p r : Int) {q s : Nat} (hq : q ≠ 0) (hs : s ≠ 0) : mkRat p q + mkRat r s = mkRat (p * s + r * q) (q * s) := Rat.mkRat_add_mkRat p r hq hs
theorem mul_mk (p r : Int) (q s : Nat) : mkRat p q * mkRat r s = mkRat (p * r) (q * s) := Rat.mkRat_mul_mkRat p r q s
theorem div_mk (p r : Int) {q s : Nat} (hq : q ≠ 0) (hs : s ≠ 0) : mkRat p q / mkRat r s = Rat.divInt (p * s) (q * r) := by
  rw [Rat.div_def, ← Rat.divInt_ofNat, ← Rat.divInt_ofNat, Rat.inv_divInt, Rat.divInt_mul_divInt]
theorem lt_mk (p r : Int) {q s : Nat} (hq : q ≠ 0) (hs : s ≠ 0) : mkRat p q < mkRat r s ↔ p * s < r * q := by
  rw [Rat.mkRat_eq_div, Rat.mkRat_eq_div]
  have h1 : (0 : Rat) < (q : Rat) := Rat.natCast_pos.2 (by omega)
  have h2 : (0 : Rat) < (s : Rat) := Rat.natCast_pos.2 (by omega)
  rw [Rat.div_lt_iff h1, show (r : Rat) / s * q = (r * q) / s by grind, Rat.lt_div_iff h2]
  rw [← Rat.intCast_natCast s, ← Rat.intCast_natCast q, ← Rat.intCast_mul, ← Rat.intCast_mul, Rat.intCast_lt_intCast]
theorem eq_mk (p r : Int) {q s : Nat} (hq : q ≠ 0) (hs : s ≠ 0) : mkRat p q = mkRat r s ↔ p * s = r * q := Rat.mkRat_eq_iff hq hs
theorem cmp_mk (p r : Int) {q s : Nat} (hq : q ≠ 0) (hs : s ≠ 0) : cmpZ (p * s) (r * q) = cmpQ (mkRat p q) (mkRat r s) := by
  unfold cmpZ cmpQ
  simp only [lt_mk p r hq hs, eq_mk p r hq hs]
theorem sgn_mk (p : Int) {q : Nat} (hq : q ≠ 0) : sgn p = sgn (mkRat p q).num := by
  have h := low_neg p q hq
  have h2 : (mkRat p q).num = 0 ↔ p = 0 := by rw [Rat.num_eq_zero, Rat.mkRat_eq_zero hq]
  unfold sgn
  simp only [h, h2]
theorem sgn_cmp (x y : Rat) : sgn (x - y).num = cmpQ x y := by
  unfold sgn cmpQ
  have h1 : (x - y).num < 0 ↔ x < y := by
    rw [← Int.not_le, Rat.num_nonneg, ← Rat.le_iff_sub_nonneg, Rat.not_le]
  have h2 : (x - y).num = 0 ↔ x = y := by
    rw [Rat.num_eq_zero]
    constructor
    · intro h; grind
    · intro h; subst h; grind
  simp only [h1, h2]
theorem floor_mk (p : Int) {q : Nat} (hq : q ≠ 0) : p / (q : Int) = (mkRat p q).floor := by
  rw [Rat.floor_def]
  obtain ⟨g, hg, h1, h2⟩ : ∃ g : Nat, g ≠ 0 ∧ p = (mkRat p q).num * g ∧ q = (mkRat p q).den * g := by
    rw [← Rat.normalize_eq_mkRat hq]
    exact Rat.normalize_num_den' p q hq
  generalize mkRat p q = x at h1 h2 ⊢
  rw [h1, h2, Int.natCast_mul, Int.mul_ediv_mul_of_pos_left _ _ (by omega)]
theorem low_le (p : Int) {q : Nat} (hq : q ≠ 0) : (mkRat p q).num.natAbs ≤ p.natAbs ∧ (mkRat p q).den ≤ q := by
  rw [low_natAbs p q hq, low_den p q hq]
  exact ⟨Nat.div_le_self _ _, Nat.div_le_self _ _⟩
theorem sz_mk {p : Int} {q L : Nat} (hq : q ≠ 0) (h1 : (digs p.natAbs).length ≤ L) (h2 : (digs q).length ≤ L) : Sz L (mkRat p q) := by
  obtain ⟨k1, k2⟩ := low_le p hq
  exact ⟨Nat.le_trans (digs_mono_length k1) h1, Nat.le_trans (digs_mono_length k2) h2⟩
theorem Sz.mono {L M : Nat} {x : Rat} (h : Sz L x) (hM : L ≤ M) : Sz M x := ⟨Nat.le_trans h.1 hM, Nat.le_trans h.2 hM⟩
theorem sz_neg {L : Nat} {x : Rat} (h : Sz L x) : Sz L (-x) := by
  refine ⟨?_, h.2⟩
  rw [show (-x).num = -x.num from rfl, Int.natAbs_neg]
  exact h.1
theorem digs_ne_len {k L : Nat} (hk : k ≠ 0) (h : (digs k).length ≤ L) : 1 ≤ L := by
  cases L with
  | zero => exact absurd (digs_eq_nil.1 (List.eq_nil_of_length_eq_zero (Nat.le_zero.1 h))) hk
  | succ n => omega
theorem sz_add {L M : Nat} {x y : Rat} (hx : Sz L x) (hy : Sz M y) : Sz (L + M + 1) (x + y) := by
  rw [Rat.add_def']
  refine sz_mk (Nat.mul_ne_zero x.den_nz y.den_nz) ?_ ?_
  · refine Nat.le_trans (digs_mono_length (b := x.num.natAbs * y.den + y.num.natAbs * x.den) ?_) (digs_add_length (k := L + M) (digs_mul_length hx.1 hy.2) ?_)
    · refine Nat.le_trans (Int.natAbs_add_le _ _) ?_
      rw [Int.natAbs_mul, Int.natAbs_mul, Int.natAbs_natCast, Int.natAbs_natCast]
      exact Nat.le_refl _
    · rw [Nat.add_comm L M]; exact digs_mul_length hy.1 hx.2
  · exact Nat.le_succ_of_le (digs_mul_length hx.2 hy.2)
theorem sz_mul {L M : Nat} {x y : Rat} (hx : Sz L x) (hy : Sz M y) : Sz (L + M + 1) (x * y) := by
  rw [Rat.mul_def']
  refine sz_mk (Nat.mul_ne_zero x.den_nz y.den_nz) ?_ (Nat.le_succ_of_le (digs_mul_length hx.2 hy.2))
  rw [Int.natAbs_mul]
  exact Nat.le_succ_of_le (digs_mul_length hx.1 hy.1)
theorem sz_sub {L M : Nat} {x y : Rat} (hx : Sz L x) (hy : Sz M y) : Sz (L + M + 1) (x - y) := by
  rw [Rat.sub_eq_add_neg]
  exact sz_add hx (sz_neg hy)
theorem sz_int {L : Nat} {z : Int} (h : (digs z.natAbs).length ≤ L) (hL : 1 ≤ L) : Sz L (z : Rat) := by
  refine ⟨h, ?_⟩
  rw [Rat.den_intCast]
  exact Nat.le_trans (by decide +kernel) hL
theorem mk_one (z : Int) : mkRat z 1 = (z : Rat) := by
  rw [Rat.mkRat_eq_div]
  grind
theorem ratv_nil (n : Bool) (l : List Nat) : ratv n l [] = (zval n l : Rat) := by
  unfold ratv
  rw [denV_nil, mk_one]
end Go.Proofs.YtmcgkglmlfbijaaGreatDoor

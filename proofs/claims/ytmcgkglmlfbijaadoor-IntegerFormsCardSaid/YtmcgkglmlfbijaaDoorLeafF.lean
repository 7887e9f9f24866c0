/-
  The program's numbers: sum, difference, conversions.
-/
import Derived.Test.YtmcgkglmlfbijaaDoorLeafE
namespace Go.Proofs.YtmcgkglmlfbijaaDoor
open Go.RowKit
set_option linter.unusedVariables false
set_option linter.unusedSimpArgs false

theorem two_le_BB : 2 ≤ BB := by rw [BB_eq]; omega

theorem pow_two_le (m : Nat) : BB ^ m * 2 ≤ BB ^ (m + 1) := by rw [Nat.pow_succ]; exact Nat.mul_le_mul_left _ two_le_BB
theorem add_end0 {A B L X Y c : Nat} (hY : X * 2 ≤ Y) (h1 : A < X) (h2 : B < X) (hc : c ≤ 1) (h : L + Y * c = A + B) : L = A + B := by
  rcases Nat.eq_zero_or_pos c with hc0 | hc0
  · subst hc0; simpa using h
  · have : c = 1 := by omega
    subst this
    omega

theorem add_end {la lb l : List Nat} {m c : Nat} (ha : Dig la) (hb : Dig lb) (hm1 : la.length ≤ m) (hm2 : lb.length ≤ m) (hc : c ≤ 1)
    (h : nval l + BB ^ (m + 1) * c = nval (la.take (m + 1)) + nval (lb.take (m + 1))) : nval l = nval la + nval lb := by
  rw [List.take_of_length_le (Nat.le_succ_of_le hm1), List.take_of_length_le (Nat.le_succ_of_le hm2)] at h
  exact add_end0 (pow_two_le m) (Nat.lt_of_lt_of_le (nval_lt la ha) (Nat.pow_le_pow_right BB_pos hm1)) (Nat.lt_of_lt_of_le (nval_lt lb hb) (Nat.pow_le_pow_right BB_pos hm2)) hc h

set_option maxHeartbeats 400000 in
theorem nat_Add (w : World) (va vb : Value) (la lb : List Nat) (ha : NatL w va la) (hb : NatL w vb lb) (hla : la.length ≤ 17592186044416) (hlb : lb.length ≤ 17592186044416) :
    Calls Tryd.prog 37 #[va, vb] w (Ret w fun r w' => NatL w' r (digs (nval la + nval lb))) := by
  have H := Lib.hid (nat_combine w va vb la lb ha hb hla hlb 53 (.inl rfl) _ _ nat_Add1 (fun k l c => nval l + BB ^ k * c = nval (la.take k) + nval (lb.take k)) (by simp [nval])
    (fun k l c h hl hc => add_round hl h (by omega)))
  have HA := Lib.hid ha
  have HB := Lib.hid hb
  clear ha hb
  go_enter Tryd.func37, Tryd.ntmps37
  go_wp2_with fail
  refine H.out.mono ?_
  rintro _ w1 ⟨r, rfl, g, l, c, hi, hl, hd, hc, hr⟩
  have Hr := Lib.hid (show NatL w1 r (digs (nval la + nval lb)) by
    rw [← add_end HA.out.dig HB.out.dig (Nat.le_max_left _ _) (Nat.le_max_right _ _) hc hi]; exact hr)
  clear hr hi hl hd hc
  go_wp2_with fail
  go_ret
  exact ⟨_, rfl, g, Hr.out⟩

theorem sub_round' {la lb l : List Nat} {k c : Nat} (hb : Dig lb) (ha : Dig la) (hl : l.length = k) (h : nval l + nval (lb.take k) = nval (la.take k) + BB ^ k * c) (hc : c ≤ 1) :
    nval (l ++ [(BB + gd la k - gd lb k - c) % BB]) + nval (lb.take (k + 1)) = nval (la.take (k + 1)) + BB ^ (k + 1) * (if gd la k < gd lb k + c then 1 else 0) := by
  have g1 := hb.gd k
  have g2 := ha.gd k
  have := sub_round (x := BB + gd la k - gd lb k - c) hl h (by omega) (by rw [BB_eq] at *; omega)
  rw [this]
  congr 2
  split
  · rw [Nat.div_eq_of_lt (by omega)]
  · rw [show (BB + gd la k - gd lb k - c) / BB = 1 from by rw [BB_eq] at *; omega]

theorem sub_end' {la lb l : List Nat} {m c : Nat} (ha : Dig la) (hb : Dig lb) (hdl : Dig l) (hl : l.length = m + 1) (hm1 : la.length ≤ m) (hm2 : lb.length ≤ m) (hc : c ≤ 1)
    (h : nval l + nval (lb.take (m + 1)) = nval (la.take (m + 1)) + BB ^ (m + 1) * c) (hle : nval lb ≤ nval la) : nval l = nval la - nval lb := by
  rw [List.take_of_length_le (by omega), List.take_of_length_le (by omega)] at h
  have h2 := nval_lt l hdl
  rw [hl] at h2
  generalize BB ^ (m + 1) = X at *
  rcases Nat.eq_zero_or_pos c with hc0 | hc0
  · subst hc0; rw [Nat.mul_zero] at h; omega
  · have : c = 1 := by omega
    subst this; rw [Nat.mul_one] at h
    omega

set_option maxHeartbeats 400000 in
theorem nat_Sub (w : World) (va vb : Value) (la lb : List Nat) (ha : NatL w va la) (hb : NatL w vb lb) (hla : la.length ≤ 17592186044416) (hlb : lb.length ≤ 17592186044416) (hle : nval lb ≤ nval la) :
    Calls Tryd.prog 92 #[va, vb] w (Ret w fun r w' => ∃ x, r = .tuple #[x, .int .i64 0] ∧ NatL w' x (digs (nval la - nval lb))) := by
  have H := Lib.hid (nat_combine w va vb la lb ha hb hla hlb 100 (.inr rfl) _ _ nat_Sub1 (fun k l c => nval l + nval (lb.take k) = nval (la.take k) + BB ^ k * c) (by simp [nval])
    (fun k l c h hl hc => sub_round' hb.dig ha.dig hl h hc))
  have HA := Lib.hid ha
  have HB := Lib.hid hb
  have hc0 : ¬ cmpZ (nval la) (nval lb) < 0 := by rw [cmpZ_neg_iff]; omega
  have Hle := Lib.hid hle
  clear ha hb hle
  go_enter Tryd.func92, Tryd.ntmps92
  go_wp2_with fail
  refine (nat_Cmp _ va vb la lb HA.out HB.out (by omega) (by omega)).mono ?_
  rintro _ _ ⟨rfl, rfl⟩
  go_wp2_with fail
  refine H.out.mono ?_
  rintro _ w1 ⟨r, rfl, g, l, c, hi, hl, hd, hc, hr⟩
  have Hr := Lib.hid (show NatL w1 r (digs (nval la - nval lb)) by
    rw [← sub_end' HA.out.dig HB.out.dig hd hl (Nat.le_max_left _ _) (Nat.le_max_right _ _) hc hi Hle.out]; exact hr)
  clear hr hi hl hd hc
  go_wp2_with fail
  go_ret2
  exact ⟨_, rfl, g, _, rfl, Hr.out⟩

set_option maxHeartbeats 400000 in
theorem nat_Sub_lt (w : World) (va vb : Value) (la lb : List Nat) (ha : NatL w va la) (hb : NatL w vb lb) (hla : la.length ≤ 17592186044416) (hlb : lb.length ≤ 17592186044416) (hlt : nval la < nval lb) :
    Calls Tryd.prog 92 #[va, vb] w fun e w' => e = .returned (.tuple #[.slice none 0 0, .int .i64 2]) ∧ w = w' := by
  have HA := Lib.hid ha
  have HB := Lib.hid hb
  have Hc := Lib.hid (cmpZ_lt hlt)
  clear ha hb hlt
  go_enter Tryd.func92, Tryd.ntmps92
  go_wp2_with fail
  refine (nat_Cmp _ va vb la lb HA.out HB.out (by omega) (by omega)).mono ?_
  rintro _ _ ⟨rfl, rfl⟩
  rw [Hc.out]
  go_wp2_with fail
  go_ret2
  exact ⟨rfl, rfl⟩

/-- slices.Clone at api.Nat -/
theorem nat_Clone (w : World) (v : Value) (l : List Nat) (h : NatL w v l) (hlen : l.length ≤ 17592186044416) :
    Calls Tryd.prog 66 #[v] w (Ret w fun r w' => NatL w' r l) := by
  have HA := Lib.hid h
  have hE := fun (w : World) (a : Option Addr) (n c : Nat) => Lib.run_eql_slice_nil (P := Tryd.prog) w 23 52 a n c 0 0 (by kernel_rfl)
  obtain ⟨h0, p, c, rfl, h1, h2, h3⟩ := h
  rcases h3 with ⟨rfl, rfl⟩ | ⟨b, o, rfl, -⟩
  · have hl : l = [] := List.eq_nil_of_length_eq_zero (by omega)
    subst hl
    go_enter Tryd.func66, Tryd.ntmps66
    go_wp2_with fail
    go_ret
    exact ⟨_, rfl, Gr.refl _, NatL.nil _⟩
  · obtain ⟨n, hn⟩ : ∃ n, l.length = n := ⟨_, rfl⟩
    rw [hn] at HA h1 hlen ⊢
    have Hn := Lib.hid hn
    clear hn h0
    go_enter Tryd.func66, Tryd.ntmps66
    go_wp2_with (at_builtin; go_must (refine wpList_appendN rfl _ _ 23 rfl (by kernel_rfl) w.heap.size _ (.slice (some ⟨b, o, none⟩) n c) [] l rfl (OwnN.made0 w _ (Nat.le_refl _)) rfl (HA.out.grow ((Gr.refl w).alloc _)) (by rw [Hn.out]; simp; omega) (by simp) ?_; intro v' w' hown' hgrow hb'))
    go_ret
    exact ⟨_, rfl, ((Gr.refl _).alloc _).own hgrow, hown'.read⟩

set_option maxHeartbeats 400000 in
theorem nat_fresh (w : World) (v : Value) (l : List Nat) (h : NatL w v l) (hlen : l.length ≤ 17592186044416) :
    Calls Tryd.prog 49 #[v] w (Ret w fun r w' => NatL w' r (digs (nval l))) := by
  have HA := Lib.hid h
  have HL := Lib.hid (trimL_length l h.dig)
  clear h
  go_enter Tryd.func49, Tryd.ntmps49
  go_wp2_with fail
  refine (nat_trim _ _ l HA.out).mono ?_
  rintro _ _ ⟨⟨r, kk, rfl, hr⟩, rfl⟩
  have Hr := Lib.hid hr
  clear hr
  go_wp2_with fail
  refine (nat_Clone _ _ _ Hr.out (Nat.le_trans HL.out hlen)).mono ?_
  rintro _ w1 ⟨r', rfl, g, hr'⟩
  have Hr' := Lib.hid hr'
  clear hr'
  go_wp2_with fail
  go_ret
  exact ⟨_, rfl, g, Hr'.out⟩
end Go.Proofs.YtmcgkglmlfbijaaDoor

/-
  exodusref01.DivMod, bit by bit.
-/
import Derived.Test.YtmcgkglmlfbijaaGreatDoorNumF
namespace Go.Proofs.YtmcgkglmlfbijaaGreatDoor
open Go.RowKit Go.Lib
set_option linter.unusedVariables false
set_option linter.unusedSimpArgs false

theorem or_bit {d k : Nat} (h : d / 2 ^ k % 2 = 0) : d ||| 2 ^ k = d + 2 ^ k := by
  obtain ⟨a, ha⟩ : ∃ a, d / 2 ^ k = 2 * a := ⟨d / 2 ^ k / 2, by omega⟩
  have hd := Nat.div_add_mod d (2 ^ k)
  have hb := Nat.mod_lt d (Nat.two_pow_pos k)
  generalize d % 2 ^ k = b at hd hb
  rw [ha] at hd
  have e1 : 2 ^ (k + 1) * a + b = d := by rw [← hd, Nat.pow_succ, Nat.mul_assoc]
  have hb2 : b < 2 ^ (k + 1) := by rw [Nat.pow_succ]; omega
  have h1 := Nat.two_pow_add_eq_or_of_lt hb2 a
  have h2 := Nat.two_pow_add_eq_or_of_lt hb 1
  rw [Nat.mul_one] at h2
  have hb3 : 2 ^ k + b < 2 ^ (k + 1) := by rw [Nat.pow_succ]; omega
  have h3 := Nat.two_pow_add_eq_or_of_lt hb3 a
  calc d ||| 2 ^ k = (2 ^ (k + 1) * a ||| b) ||| 2 ^ k := by rw [← h1, e1]
    _ = 2 ^ (k + 1) * a ||| (2 ^ k ||| b) := by rw [Nat.or_assoc, Nat.or_comm b]
    _ = 2 ^ (k + 1) * a + (2 ^ k + b) := by rw [← h2, ← h3]
    _ = d + 2 ^ k := by rw [← e1]; omega

/-- one round: the top part of A grows by one bit -/
theorem div_round {A B m : Nat} (hB : 0 < B) : ∃ bit, bit = A / 2 ^ m % 2 ∧ (
    (2 * (A / 2 ^ (m + 1) % B) + bit < B ∧ A / 2 ^ m % B = 2 * (A / 2 ^ (m + 1) % B) + bit ∧ A / 2 ^ m / B = 2 * (A / 2 ^ (m + 1) / B)) ∨
    (B ≤ 2 * (A / 2 ^ (m + 1) % B) + bit ∧ A / 2 ^ m % B = 2 * (A / 2 ^ (m + 1) % B) + bit - B ∧ A / 2 ^ m / B = 2 * (A / 2 ^ (m + 1) / B) + 1)) := by
  have e : A / 2 ^ (m + 1) = A / 2 ^ m / 2 := by rw [Nat.pow_succ, Nat.div_div_eq_div_mul]
  rw [e]
  generalize A / 2 ^ m = U
  refine ⟨U % 2, rfl, ?_⟩
  have h1 := Nat.div_add_mod U 2
  have h2 := Nat.div_add_mod (U / 2) B
  have h3 := Nat.mod_lt (U / 2) hB
  generalize U / 2 / B = q at *
  generalize U / 2 % B = r at *
  have hb := Nat.mod_lt U (show 0 < 2 by decide)
  generalize U % 2 = bit at *
  have h4 : U = B * (2 * q) + (2 * r + bit) := by rw [← h1, ← h2, Nat.mul_add, Nat.mul_left_comm 2 B q]; omega
  by_cases hc : 2 * r + bit < B
  · refine .inl ⟨hc, ?_, ?_⟩
    · rw [h4, Nat.mul_add_mod, Nat.mod_eq_of_lt hc]
    · rw [h4, Nat.mul_add_div hB, Nat.div_eq_of_lt hc, Nat.add_zero]
  · have h5 : U = B * (2 * q + 1) + (2 * r + bit - B) := by rw [h4, Nat.mul_add, Nat.mul_one]; omega
    have hc2 : 2 * r + bit - B < B := by omega
    refine .inr ⟨by omega, ?_, ?_⟩
    · rw [h5, Nat.mul_add_mod, Nat.mod_eq_of_lt hc2]
    · rw [h5, Nat.mul_add_div hB, Nat.div_eq_of_lt hc2, Nat.add_zero]

theorem NatL.keepE {g : Nat} {w w' : World} {v : Value} {l : List Nat} (h : NatL w v l) (hn : NotIn g v) (ho : OnlyG g w w') : NatL w' v l := h.keep hn ho
theorem notIn_old {w : World} {v : Value} {l : List Nat} (h : NatL w v l) (hl : l ≠ []) {g : Nat} (hg : w.heap.size ≤ g) : NotIn g v := fun b o n c e => by
  subst e
  obtain ⟨b', o', hp, hc⟩ := h.at 0 (List.length_pos_iff.2 hl)
  injection hp with hp
  injection hp with hp1 hp2
  subst hp1
  have := World.block_lt_of_cell? w _ hc
  intro e2
  subst e2
  exact absurd (show b < w.heap.size from this) (by omega)

set_option maxRecDepth 100000 in
set_option maxHeartbeats 3200000 in
theorem ref_DivMod (w : World) (va vb : Value) (la lb : List Nat) (ha : NatL w va la) (hb : NatL w vb lb) (hla : la.length ≤ 1000000) (hlb : lb.length ≤ 1000000) (hB : 0 < nval lb) :
    Calls Tryz.prog 109 #[va, vb] w (Ret w fun r w' => ∃ x y, r = .tuple #[x, y, .int .i64 0] ∧ NatL w' x (digs (nval la / nval lb)) ∧ NatL w' y (digs (nval la % nval lb))) := by
  have HA := Lib.hid ha
  have HB := Lib.hid hb
  obtain ⟨A, hA⟩ : ∃ A, nval la = A := ⟨_, rfl⟩
  obtain ⟨B, hBe⟩ : ∃ B, nval lb = B := ⟨_, rfl⟩
  rw [hBe] at hB
  rw [hA, hBe]
  have HAe := Lib.hid hA
  have HBl := Lib.hid (show (digs B).length ≤ 1000000 by rw [← hBe]; exact Nat.le_trans (digs_nval_len hb.dig) hlb)
  have hBne : digs B ≠ [] := fun e => by have := digs_eq_nil.1 e; omega
  have hbl := Lib.hid (show lb.length ≤ 1000000 from hlb)
  have HBe := Lib.hid hBe
  obtain ⟨p, c, rfl, a1, a2, -⟩ := ha.parts
  obtain ⟨L, hL⟩ : ∃ L, la.length = L := ⟨_, rfl⟩
  rw [hL] at HA a1 hla ⊢
  have HL := Lib.hid hL
  clear ha hb hA hBe hL hlb
  go_enter Tryz.func109, Tryz.ntmps109
  go_wp2_with fail
  refine (ref_Trim _ _ lb HB.out (Nat.le_trans hbl.out (by decide))).mono ?_
  rintro _ w1 ⟨vt, rfl, g1, ht⟩
  rw [digs_trimL, HBe.out] at ht
  have HT := Lib.hid ht
  obtain ⟨pt, kt, ct, rfl, hkt⟩ := ht.slice
  have hk0 : 0 < kt := by rw [hkt]; exact List.length_pos_iff.2 hBne
  have hk1 : kt ≤ 1000000 := by rw [hkt]; exact HBl.out
  have Hne := Lib.hid hBne
  have G1 := Lib.hid g1
  clear ht g1 hkt hBne
  obtain ⟨g, hg⟩ : ∃ g, w1.heap.size = g := ⟨_, rfl⟩
  have Hg := Lib.hid hg
  clear hg
  go_wp2_with (first | (go_at_call 999) | (at_make; go_must (refine wpList_makeN rfl _ _ 23 rfl (by kernel_rfl) L _ rfl rfl (by omega) (by omega) ?_; rw [Hg.out]; intro w2 hrow hgr1 hsz1)))
  have HRow := Lib.hid (hrow.grow ((Gr.refl w2).alloc (.cells #[] 64)))
  have G2 := Lib.hid (hgr1.trans ((Gr.refl w2).alloc (.cells #[] 64)))
  clear hrow hgr1 hsz1
  have hAL := Lib.hid (show A < BB ^ L by rw [← HAe.out, ← HL.out]; exact nval_lt la HA.out.dig)
  go_loopw [8, 9] (fun vr z w3 => ∃ (n : Nat) (lq : List Nat), n ≤ 32 * L ∧ z = .int .i64 ((n : Int) - 1) ∧ lq.length = L ∧ RowN w3 g lq ∧ NatL w3 vr (digs (A / 2 ^ n % B)) ∧ nval lq = A / 2 ^ n / B * 2 ^ n ∧ Own w1.heap.size w1 w3) (fun _ z _ => (RowKit.intOf z + 1).toNat)
  case atStart =>
    have h0 : A / 2 ^ (32 * L) = 0 := Nat.div_eq_of_lt (by have := hAL.out; rw [BB_two, ← Nat.pow_mul] at this; exact this)
    refine ⟨32 * L, List.replicate L 0, Nat.le_refl _, ?_, by simp, HRow.out, ?_, ?_, Own.of_gr G2.out (Nat.le_refl _)⟩
    · simp
    · rw [h0, Nat.zero_mod, digs_eq_nil.2 rfl]; exact NatL.empty _ _ _ _ rfl
    · rw [h0, nval_replicate, Nat.zero_div, Nat.zero_mul]
  case round =>
    obtain ⟨n, lq, hn, rfl, hlq, hrow, hvr, hq, ho⟩ := hrel
    have Hlq := Lib.hid hlq
    have Hrow := Lib.hid hrow
    have Hvr := Lib.hid hvr
    have Hq := Lib.hid hq
    have Ho := Lib.hid ho
    clear hlq hrow hvr hq ho
    by_cases hn0 : n = 0
    · subst hn0
      go_wp2_with fail
      have hrd := Hrow.out.read L (by rw [Hlq.out]; exact Nat.le_refl _) (by omega)
      rw [Hlq.out] at hrd
      refine (ref_Trim _ _ _ hrd (by rw [Hlq.out]; omega)).mono ?_
      rintro _ w4 ⟨r4, rfl, g4, h4⟩
      rw [digs_trimL, Hq.out, Nat.pow_zero, Nat.div_one, Nat.mul_one] at h4
      have hv := Hvr.out
      rw [Nat.pow_zero, Nat.div_one] at hv
      have H4 := Lib.hid h4
      have HV := Lib.hid (hv.grow g4)
      have GE := Lib.hid (G1.out.trans (Ho.out.gr.trans g4))
      clear h4 hv g4 hrd
      go_wp2_with fail
      go_ret3
      exact ⟨_, rfl, GE.out, _, _, rfl, H4.out, HV.out⟩
    · obtain ⟨m, rfl⟩ : ∃ m, n = m + 1 := ⟨n - 1, by omega⟩
      have E0 : ((m + 1 : Nat) : Int) - 1 = (m : Int) := by omega
      rw [E0]
      have hm32 : m < 32 * L := by omega
      obtain ⟨bit, hbit, hcase⟩ := div_round (A := A) (m := m) hB
      obtain ⟨R, hR⟩ : ∃ R, A / 2 ^ (m + 1) % B = R := ⟨_, rfl⟩
      have hRB : R < B := by rw [← hR]; exact Nat.mod_lt _ hB
      rw [hR] at Hvr hcase
      have hb2 : bit < 2 := by rw [hbit]; exact Nat.mod_lt _ (by decide)
      have Hbit := Lib.hid hbit
      have Hcase := Lib.hid hcase
      have HR := Lib.hid hR
      have hdR := Lib.hid (Nat.le_trans (digs_mono_len (Nat.le_of_lt hRB)) HBl.out)
      clear hn0 hbit hcase hR E0 hn
      go_wp2_with fail
      refine (ref_Add _ _ _ _ _ Hvr.out Hvr.out (Nat.le_trans hdR.out (by decide)) (Nat.le_trans hdR.out (by decide))).mono ?_
      rintro _ w4 ⟨r4, rfl, g4, h4⟩
      rw [nval_digs] at h4
      have H4 := Lib.hid h4
      have G4 := Lib.hid g4
      clear h4 g4
      go_wp2_with fail
      refine (ref_Bit _ _ la m (HA.out.grow (G1.out.trans (Ho.out.gr.trans G4.out))) (by rw [HL.out]; exact hm32) (by rw [HL.out]; exact hla)).mono ?_
      rintro _ w5 ⟨_, rfl, g5, rfl⟩
      rw [HAe.out, ← Hbit.out]
      have G5 := Lib.hid (G4.out.trans g5)
      have H4 := Lib.hid (H4.out.grow g5)
      clear g5
      go_wp2_with fail
      have h1b := Lib.hid (NatL.one w5 bit bit rfl (by rw [BB_eq]; omega) 64)
      have g1b := Lib.hid ((Gr.refl w5).alloc (.cells #[.int .u32 bit] 64))
      refine (ref_Add _ _ _ _ [bit] (H4.out.grow g1b.out) h1b.out (Nat.le_trans (digs_add_len hdR.out hdR.out) (by decide)) (by simp)).mono ?_
      rintro _ w6 ⟨r6, rfl, g6, h6⟩
      rw [nval_digs, show nval [bit] = bit by simp [nval], show R + R + bit = 2 * R + bit by omega] at h6
      have H6 := Lib.hid h6
      have G6 := Lib.hid (G5.out.trans (g1b.out.trans g6))
      clear h6 g6 h1b g1b H4
      have HT6 := Lib.hid (HT.out.grow (Ho.out.gr.trans G6.out))
      have hdr6 := Lib.hid (show (digs (2 * R + bit)).length ≤ 1000001 from Nat.le_trans (digs_mono_len (show 2 * R + bit ≤ B + B by omega)) (digs_add_len HBl.out HBl.out))
      go_wp2_with fail
      obtain ⟨cz, hcz⟩ : ∃ cz, cmpZ ((2 * R + bit : Nat) : Int) (B : Int) = cz := ⟨_, rfl⟩
      have Hcz := Lib.hid hcz
      clear hcz
      refine (ref_Cmp _ _ _ _ _ H6.out HT6.out (Nat.le_trans hdr6.out (by decide)) (Nat.le_trans HBl.out (by decide))).mono ?_
      rintro _ w7 ⟨_, rfl, g7, rfl⟩
      rw [nval_digs, nval_digs, Hcz.out]
      have G7 := Lib.hid (G6.out.trans g7)
      have H7 := Lib.hid (H6.out.grow g7)
      have HT7 := Lib.hid (HT6.out.grow g7)
      have Hrow7 := Lib.hid (Hrow.out.grow G7.out)
      clear g7 H6 HT6 G6 G5 G4
      rcases Hcase.out with ⟨c1, c2, c3⟩ | ⟨c1, c2, c3⟩
      · have hz : cz = -1 := by rw [← Hcz.out]; unfold cmpZ; rw [if_pos (by omega)]
        subst hz
        go_wp2_with fail
        refine ⟨⟨m, lq, by omega, rfl, Hlq.out, Hrow7.out, ?_, ?_, Ho.out.trans (Own.of_gr G7.out Ho.out.size)⟩, by simp [RowKit.intOf] <;> omega⟩
        · rw [c2]; exact H7.out
        · rw [c3, Hq.out]
          generalize A / 2 ^ (m + 1) / B = qq
          rw [Nat.pow_succ, Nat.mul_comm (2 ^ m) 2, ← Nat.mul_assoc, Nat.mul_comm 2]
      · have hz : ¬ cz < 0 := by rw [← Hcz.out, cmpZ_neg_iff]; omega
        go_wp2_with fail
        refine (ref_SubO _ _ _ _ _ H7.out HT7.out (Nat.le_trans hdr6.out (by decide)) (Nat.le_trans HBl.out (by decide)) (by rw [nval_digs, nval_digs]; exact c1)).mono ?_
        rintro _ w8 ⟨_, rfl, g8, x8, rfl, hx8, hfr⟩
        rw [nval_digs, nval_digs] at hx8
        have Hx8 := Lib.hid hx8
        have hnot := Lib.hid (hfr g Hrow7.out.lt)
        have Hrow8 := Lib.hid (Hrow7.out.grow g8)
        have G8 := Lib.hid (G7.out.trans g8)
        clear hx8 hfr g8
        obtain ⟨j, hj⟩ : ∃ j, m / 32 = j := ⟨_, rfl⟩
        obtain ⟨k, hk⟩ : ∃ k, m % 32 = k := ⟨_, rfl⟩
        have hjL : j < L := by omega
        have hk32 : k < 32 := by omega
        have E1 : (m : Int) / 32 = (j : Int) := by omega
        have E2 : (m : Int) % 32 = (k : Int) := by omega
        have E3 : (m : Int).tdiv 32 = (j : Int) := by rw [Int.tdiv_eq_ediv_of_nonneg (by omega)]; exact E1
        have E4 : (m : Int).tmod 32 = (k : Int) := by rw [Int.tmod_eq_emod_of_nonneg (by omega)]; exact E2
        go_wp2_with fail
        refine wp_region_fast [(0, true), (1, true), (2, true), (3, true), (4, true), (5, true), (6, true), (7, true), (8, true), (9, true), (10, true), (11, true), (12, true), (13, false)] (by kernel_rfl) (by kernel_rfl) rfl (by kernel_rfl) (fun _ _ d _ _ h => by cases d <;> exact h) ?_
        have HrowD := Lib.hid (Hrow8.out.grow ((Gr.refl _).drew))
        have GD := Lib.hid (G8.out.trans ((Gr.refl _).drew))
        have HxD := Lib.hid (Hx8.out.grow ((Gr.refl _).drew))
        generalize w8.drew = w9 at HrowD GD HxD ⊢
        have cq : ∀ w', Gr w9 w' → w'.cell? ⟨g, j, none⟩ = some (.int .u32 (gd lq j)) := fun w' hh => hh.cell (HrowD.out.cell (by rw [Hlq.out]; exact hjL))
        have hdj := HrowD.out.dig.gd j
        obtain ⟨d, hd⟩ : ∃ d, gd lq j = d := ⟨_, rfl⟩
        simp only [hd] at cq
        rw [hd, BB_eq] at hdj
        have Hd := Lib.hid hd
        clear hd
        have g0 := Gr.refl w9
        have hjI : (j : Int) < (L : Int) := by omega
        have wj : IntKind.i64.wrap (j : Int) = (j : Int) := by rw [IntKind.wrap_i64]; omega
        have hd0 : d / 2 ^ k % 2 = 0 := by
          have h1 := bit_at HrowD.out.dig (j := j) (k := k) (by rw [Hlq.out]; exact hjL) hk32
          rw [Hd.out, show 32 * j + k = m by omega, Hq.out, Nat.pow_succ, Nat.mul_comm (2 ^ m) 2, ← Nat.mul_assoc, Nat.mul_div_cancel _ (Nat.two_pow_pos m)] at h1
          rw [← h1]
          omega
        have hk2 : 2 ^ k < 2 ^ 32 := Nat.pow_lt_pow_right (by decide) hk32
        obtain ⟨e, he⟩ : ∃ e, d + 2 ^ k = e := ⟨_, rfl⟩
        have heB : e < 2 ^ 32 := by rw [← he, ← or_bit hd0]; exact Nat.or_lt_two_pow (by omega) hk2
        have EO : bits .or .u32 (d : Int) (IntKind.u32.wrap (2 ^ k)) = (e : Int) := by
          have h1 := (bits_nat .u32 32 (by decide) (fun n h0 h1 => by simp [IntKind.wrap, IntKind.bits, IntKind.signed]; omega) d (2 ^ k) (by omega) hk2).2
          rw [or_bit hd0, he] at h1
          rw [← h1]
          congr 1
          have : (2 : Int) ^ k = ((2 ^ k : Nat) : Int) := by simp
          rw [this]
          generalize 2 ^ k = X at hk2 ⊢
          simp [IntKind.wrap, IntKind.bits, IntKind.signed]; omega
        have He := Lib.hid he
        have HeB := Lib.hid heB
        clear hd0 hk2 he heB
        repeat (refine wpE_readB (v := ?_) g0 rfl rfl (fun w' hg => ?_) (fun K hK => ?_); rotate_left; (go_simp; rfl); go_simp; refine hK _ _ ?_; clear hK K)
        have cw := cq w9 (Gr.refl _)
        have fw := HrowD.out.free j
        refine wpE_do rfl rfl (fun K hK => ?_)
        go_simp
        refine ⟨fun h => Bool.noConfusion h, hK _ _ ?_⟩
        clear hK K
        refine wpE_nil ?_
        have HrowS := Lib.hid (HrowD.out.set j e (e : Int) rfl (by rw [BB_two]; exact HeB.out))
        have HxS := Lib.hid (HxD.out.keep hnot.out (OnlyG.set g w9 j (.int .u32 (e : Int))))
        have HoS := Lib.hid ((Ho.out.trans (Own.of_gr GD.out Ho.out.size)).trans (Own.setCell w9 (base := w1.heap.size) (g := g) (by rw [Hg.out]; exact Nat.le_refl _) j (.int .u32 (e : Int))))
        clear cw fw cq
        generalize w9.setCell _ _ = wS at HrowS HxS HoS ⊢
        go_wp2_with fail
        refine ⟨⟨m, lq.set j e, by omega, rfl, by rw [List.length_set]; exact Hlq.out, HrowS.out, ?_, ?_, HoS.out⟩, by simp [RowKit.intOf] <;> omega⟩
        · rw [c2]; exact HxS.out
        · have h1 := nval_set e (l := lq) (i := j) (by rw [Hlq.out]; exact hjL)
          rw [Hd.out, ← He.out, Nat.mul_add] at h1
          have h2 : BB ^ j * 2 ^ k = 2 ^ m := by rw [BB_two, ← Nat.pow_mul, ← Nat.pow_add]; congr 1; omega
          rw [h2, Hq.out] at h1
          rw [c3, ← He.out]
          generalize A / 2 ^ (m + 1) / B = qq at *
          generalize BB ^ j * d = Y at *
          rw [Nat.pow_succ] at h1
          rw [Nat.add_mul, Nat.one_mul]
          have h3 : qq * (2 ^ m * 2) = 2 * qq * 2 ^ m := by rw [Nat.mul_comm (2 ^ m) 2, ← Nat.mul_assoc, Nat.mul_comm 2]
          rw [h3] at h1
          omega
end Go.Proofs.YtmcgkglmlfbijaaGreatDoor

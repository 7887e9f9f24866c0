/-
  lexer.skip.
-/
import Derived.Test.YtakcolmgbahgiaaDoorLexB
namespace Go.Proofs.YtakcolmgbahgiaaDoor
open Go.RowKit Go.Lib Lex
set_option linter.unusedVariables false
set_option linter.unusedSimpArgs false

theorem inS_sp (c : UInt8) : inS [32, 9, 10, 13] c = isBl c := by
  unfold inS isBl
  simp [List.contains_cons, Bool.or_assoc]
  rfl
theorem skip_sp : ∀ bs : List UInt8, skipL false bs = (bs.takeWhile isBl).length + skipL false (bs.drop (bs.takeWhile isBl).length)
  | [] => rfl
  | b :: bs => by
    have ih := skip_sp bs
    by_cases h : isBl b = true
    · have h35 : (b == 35) = false := by
        cases hb : b == 35 with
        | false => rfl
        | true =>
          have e : b = 35 := by simpa using hb
          subst e; revert h; decide
      simp only [List.takeWhile, h, List.length_cons, List.drop_succ_cons]
      show (if b == 35 then skipL true bs + 1 else if isBl b then skipL false bs + 1 else 0) = _
      rw [h35, h]
      simp only [Bool.false_eq_true, if_false, if_true]
      omega
    · simp [List.takeWhile, h]
theorem skip_nl : ∀ bs : List UInt8, skipL true bs = (bs.takeWhile (fun c => c != 10)).length + skipL false (bs.drop (bs.takeWhile (fun c => c != 10)).length)
  | [] => rfl
  | b :: bs => by
    have ih := skip_nl bs
    by_cases h : (b != 10) = true
    · simp only [List.takeWhile, h, List.length_cons, List.drop_succ_cons]
      show skipL (b != 10) bs + 1 = _
      rw [h, ih]; omega
    · have e : b = 10 := by simpa using h
      subst e
      have e1 : ((10 : UInt8) :: bs).takeWhile (fun c => c != 10) = [] := by simp [List.takeWhile]
      rw [e1]
      show skipL false bs + 1 = 0 + (skipL false bs + 1)
      omega
theorem skip_cm (r : List UInt8) : skipL false (35 :: r) = ((35 :: r).takeWhile (fun c => c != 10)).length + skipL false ((35 :: r).drop ((35 :: r).takeWhile (fun c => c != 10)).length) := by
  have h := skip_nl r
  show skipL true r + 1 = _
  rw [h]
  have e : (35 :: r).takeWhile (fun c => c != 10) = 35 :: r.takeWhile (fun c => c != 10) := rfl
  rw [e]
  simp only [List.length_cons, List.drop_succ_cons]
  omega
theorem drop_str (bs : List UInt8) (k : Nat) : (⟨bs.toArray⟩ : ByteArray).extract k bs.length = ⟨(bs.drop k).toArray⟩ := by
  rw [ByteArray.extract_mk]
  simp
  rw [List.take_of_length_le (by simp)]

theorem takeWhile_stop (p : UInt8 → Bool) : ∀ (bs : List UInt8) (h : (bs.takeWhile p).length < bs.length), p bs[(bs.takeWhile p).length] = false
  | [], h => by simp at h
  | b :: bs, h => by
    by_cases hb : p b = true
    · simp only [List.takeWhile, hb, List.length_cons] at h ⊢
      simpa using takeWhile_stop p bs (by omega)
    · simp [List.takeWhile, hb]

set_option maxRecDepth 100000 in
set_option maxHeartbeats 1600000 in
theorem lex_skip (w : World) (bs : List UInt8) (hl : bs.length ≤ 1000000000) :
    Calls Tryd.prog 20 #[.string ⟨bs.toArray⟩] w (Ret w fun r w' => r = .int .i64 (skipL false bs : Nat)) := by
  go_enter Tryd.func20, Tryd.ntmps20
  go_wp2_with fail
  go_loopw [3] (fun i w1 => ∃ k : Nat, i = .int .i64 k ∧ k ≤ bs.length ∧ skipL false bs = k + skipL false (bs.drop k) ∧ Gr w w1) (fun i _ => bs.length - (RowKit.intOf i).toNat)
  case atStart => exact ⟨0, rfl, Nat.zero_le _, by simp, Gr.refl _⟩
  case round =>
    obtain ⟨k, rfl, hk, hp, hg⟩ := hrel
    have Hp := Lib.hid hp
    have G := Lib.hid hg
    clear hp hg
    have hd := drop_str bs k
    go_wp2_with fail
    refine wp_region_fast [(0, true), (1, true), (2, true), (3, true), (4, false), (5, false), (6, true), (7, true)] (by kernel_rfl) (by kernel_rfl) rfl (by kernel_rfl) (fun _ _ d _ _ h => by cases d <;> exact h) ?_
    have g0 : Gr wr wr.drew := (Gr.refl _).drew
    have G := Lib.hid (G.out.trans g0)
    repeat (refine wpE_readB (v := ?_) g0 rfl rfl (fun w' hg => ?_) (fun K hK => ?_); rotate_left; (go_simp; rfl); go_simp; refine hK _ _ ?_; clear hK K)
    refine wpE_fn (args := ?_) rfl rfl rfl rfl rfl rfl (by kernel_rfl) (by kernel_rfl) ?_ (fun K hK => ?_)
    rotate_left
    · go_simp; rfl
    refine (lex_among _ [32, 9, 10, 13]).mono ?_
    rintro _ w1 ⟨r1, rfl, g1, h1⟩
    refine ⟨_, rfl, g1, ?_⟩
    go_simp
    refine hK _ _ ?_
    clear hK K
    have G := Lib.hid (G.out.trans g1)
    replace g0 := g0.trans g1
    clear g1
    have H1 := Lib.hid h1
    clear h1
    obtain ⟨j, hj⟩ : ∃ j, ((bs.drop k).takeWhile isBl).length = j := ⟨_, rfl⟩
    have Hj := Lib.hid hj
    have hjl : k + j ≤ bs.length := by
      rw [← hj]
      have h1 := (List.takeWhile_prefix (p := isBl) (l := bs.drop k)).length_le
      rw [List.length_drop] at h1
      omega
    have Hpred : (fun c => inS [32, 9, 10, 13] c) = isBl := funext inS_sp
    have H1' := Lib.hid (show Cls _ r1 isBl by rw [← Hpred]; exact H1.out)
    refine wpE_fn (args := ?_) rfl rfl rfl rfl rfl rfl (by kernel_rfl) (by kernel_rfl) ?_ (fun K hK => ?_)
    rotate_left
    · go_simp; rfl
    refine (lex_run _ (bs.drop k) r1 isBl j H1'.out hj (by simp; omega)).mono ?_
    rintro _ w2 ⟨_, rfl, g2, rfl⟩
    refine ⟨_, rfl, g2, ?_⟩
    go_simp
    refine hK _ _ ?_
    clear hK K
    have G := Lib.hid (G.out.trans g2)
    have H1 := Lib.hid (H1.out.grow g2)
    replace g0 := g0.trans g2
    clear g2
    clear hj
    obtain ⟨n1, hn1⟩ : ∃ n1, k + j = n1 := ⟨_, rfl⟩
    have hw : IntKind.i64.wrap ((k : Int) + (j : Int)) = (n1 : Int) := by
      rw [IntKind.wrap_i64]; omega
    repeat (refine wpE_readB (v := ?_) g0 rfl rfl (fun w' hg => ?_) (fun K hK => ?_); rotate_left; (go_simp; rfl); go_simp; refine hK _ _ ?_; clear hK K)
    refine wpE_nil ?_
    clear g0
    have Hp2 := Lib.hid (show skipL false bs = n1 + skipL false (bs.drop n1) by
      rw [Hp.out, skip_sp (bs.drop k), Hj.out, List.drop_drop, ← hn1]; omega)
    have hn1l : n1 ≤ bs.length := by omega
    have Hk := Lib.hid (show k ≤ n1 by omega)
    have Hstop := Lib.hid (show ∀ h : n1 < bs.length, isBl bs[n1] = false from fun h => by
      have hh := takeWhile_stop isBl (bs.drop k)
      rw [Hj.out] at hh
      have := hh (by simp; omega)
      simp only [List.getElem_drop] at this
      simpa [← hn1] using this)
    clear hw hjl hd hk
    by_cases hend : n1 = bs.length
    · go_wp2_with fail
      go_ret
      refine ⟨_, rfl, G.out, ?_⟩
      rw [Hp2.out, hend, List.drop_length]
      rfl
    · have hlt : n1 < bs.length := by omega
      obtain ⟨c, hc⟩ : ∃ c, bs[n1] = c := ⟨_, rfl⟩
      have hi : ∀ h, (⟨bs.toArray⟩ : ByteArray)[n1]'h = c := fun h => by show bs.toArray[n1] = _; simp [hc]
      have Hc := Lib.hid hc
      have Hdrop := Lib.hid (show bs.drop n1 = c :: bs.drop (n1 + 1) by rw [← hc]; exact List.drop_eq_getElem_cons hlt)
      clear hc
      by_cases h35 : c = 35
      · subst h35
        have hd := drop_str bs n1
        go_wp2_with fail
        obtain ⟨j2, hj2⟩ : ∃ j, ((bs.drop n1).takeWhile (fun c => c != 10)).length = j := ⟨_, rfl⟩
        have Hj2 := Lib.hid hj2
        have hjl2 : n1 + j2 ≤ bs.length := by
          rw [← hj2]
          have h1 := (List.takeWhile_prefix (p := fun c : UInt8 => c != 10) (l := bs.drop n1)).length_le
          rw [List.length_drop] at h1
          omega
        have Hj21 := Lib.hid (show 1 ≤ j2 by rw [← hj2, Hdrop.out]; simp [List.takeWhile])
        refine (lex_run _ (bs.drop n1) _ (fun c => c != 10) j2 (cls_skip _) hj2 (by simp; omega)).mono ?_
        rintro _ w3 ⟨_, rfl, g3, rfl⟩
        have G := Lib.hid (G.out.trans g3)
        clear hj2 g3 hd hi
        go_wp2_with fail
        refine ⟨⟨n1 + j2, by go_num, by omega, ?_, G.out⟩, by have := Hj21.out; have := Hk.out; simp [RowKit.intOf]; omega⟩
        rw [Hp2.out]
        have h := skip_cm (bs.drop (n1 + 1))
        rw [← Hdrop.out, Hj2.out, List.drop_drop] at h
        rw [h]; omega
      · have hne : ¬ (c.toNat : Int) = 35 := fun e => h35 (UInt8.toNat_inj.1 (show c.toNat = (35 : UInt8).toNat by show _ = 35; omega))
        have hbn : ((c.toNat : Int) != 35) = true := by simpa using hne
        have hnn : ¬ c.toNat = 35 := by omega
        go_wp2_with fail
        go_ret
        refine ⟨_, rfl, G.out, ?_⟩
        have hz : skipL false (bs.drop n1) = 0 := by
          rw [Hdrop.out]
          show (if c == 35 then skipL true (bs.drop (n1 + 1)) + 1 else if isBl c then skipL false (bs.drop (n1 + 1)) + 1 else 0) = 0
          have e1 : (c == 35) = false := by simpa using h35
          have e2 : isBl c = false := by rw [← Hc.out]; exact Hstop.out hlt
          rw [e1, e2]; rfl
        rw [Hp2.out, hz]
        rfl
end Go.Proofs.YtakcolmgbahgiaaDoor

/-
  lexer.run.
-/
import Derived.Test.YtakcolmgbahgiaaDoorLexA
namespace Go.Proofs.YtakcolmgbahgiaaDoor
open Go.RowKit Go.Lib
set_option linter.unusedVariables false
set_option linter.unusedSimpArgs false

theorem run_len {p : UInt8 → Bool} : ∀ (bs : List UInt8) (k : Nat), k ≤ bs.length → (∀ c ∈ bs.take k, p c = true) → (∀ h : k < bs.length, p bs[k] = false) → (bs.takeWhile p).length = k
  | [], k, hk, _, _ => by simp at hk; simp [hk]
  | b :: bs, 0, _, _, h => by
    have := h (by simp)
    simp at this
    simp [List.takeWhile, this]
  | b :: bs, k + 1, hk, h1, h2 => by
    have hb : p b = true := h1 b (by simp)
    have ih := run_len bs k (by simpa using hk) (fun c hc => h1 c (by simp [hc])) (fun h => by have := h2 (by simp; omega); simpa using this)
    simp [List.takeWhile, hb, ih]

set_option maxRecDepth 100000 in
set_option maxHeartbeats 800000 in
theorem lex_run (w : World) (bs : List UInt8) (v : Value) (p : UInt8 → Bool) (n : Nat) (hv : Cls w v p) (hn : (bs.takeWhile p).length = n) (hl : bs.length ≤ 1000000000) :
    Calls Tryd.prog 31 #[.string ⟨bs.toArray⟩, v] w (Ret w fun r w' => r = .int .i64 (n : Int)) := by
  subst hn
  obtain ⟨f, caps, rfl, he, h5⟩ := hv
  have H5 := Lib.hid h5
  clear h5
  go_enter Tryd.func31, Tryd.ntmps31
  go_wp2_with fail
  go_loopw [5] (fun i w1 => ∃ k : Nat, i = .int .i64 k ∧ k ≤ bs.length ∧ (∀ c ∈ bs.take k, p c = true) ∧ Gr w w1) (fun i _ => bs.length - (RowKit.intOf i).toNat)
  case atStart => exact ⟨0, rfl, Nat.zero_le _, fun c hc => by simp at hc, Gr.refl _⟩
  case round =>
    obtain ⟨k, rfl, hk, hp, hg⟩ := hrel
    have Hp := Lib.hid hp
    have Hg := Lib.hid hg
    clear hp hg
    by_cases hlt : k < bs.length
    · obtain ⟨c, hc⟩ : ∃ c, bs[k] = c := ⟨_, rfl⟩
      have hi : ∀ h, (⟨bs.toArray⟩ : ByteArray)[k]'h = c := fun h => by show bs.toArray[k] = _; simp [hc]
      have Hc := Lib.hid hc
      clear hc
      go_wp2_with fail
      refine (H5.out wr Hg.out c).mono ?_
      rintro _ w2 ⟨_, rfl, g2, rfl⟩
      have G := Lib.hid (Hg.out.trans g2)
      clear g2
      obtain ⟨t, ht⟩ : ∃ t, p c = t := ⟨_, rfl⟩
      rw [ht]
      have Ht := Lib.hid ht
      clear ht hi
      cases t
      · go_wp2_with fail
        go_ret
        refine ⟨_, rfl, G.out, ?_⟩
        rw [run_len bs k hk Hp.out (fun h => by rw [Hc.out]; exact Ht.out)]
        rfl
      · go_wp2_with fail
        refine ⟨⟨k + 1, by go_num, by omega, fun d hd => ?_, G.out⟩, by simp [RowKit.intOf]; omega⟩
        rw [List.take_succ_eq_append_getElem hlt, Hc.out, List.mem_append] at hd
        rcases hd with hd | hd
        · exact Hp.out d hd
        · rw [List.mem_singleton.1 hd]; exact Ht.out
    · go_wp2_with fail
      go_ret
      refine ⟨_, rfl, Hg.out, ?_⟩
      rw [run_len bs k hk Hp.out (fun h => absurd h hlt)]
      rfl
end Go.Proofs.YtakcolmgbahgiaaDoor

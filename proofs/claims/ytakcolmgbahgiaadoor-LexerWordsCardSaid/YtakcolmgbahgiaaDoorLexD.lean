/-
  lexer.anyOf: the union of classes.
-/
import Derived.Test.YtakcolmgbahgiaaDoorLexC
namespace Go.Proofs.YtakcolmgbahgiaaDoor
open Go.RowKit Go.Lib Lex
set_option linter.unusedVariables false
set_option linter.unusedSimpArgs false

/-- a row of function values, which answer ps -/
def ClsRow (w : World) (b : Nat) (ps : List (UInt8 → Bool)) : Prop := ∀ i (h : i < ps.length), ∃ v, (∀ w', Gr w w' → w'.cell? ⟨b, i, none⟩ = some v) ∧ Cls w v ps[i]
theorem ClsRow.grow {w w' : World} {b : Nat} {ps : List (UInt8 → Bool)} (h : ClsRow w b ps) (g : Gr w w') : ClsRow w' b ps := fun i hi => by
  obtain ⟨v, h1, h2⟩ := h i hi
  exact ⟨v, fun w'' g' => h1 w'' (g.trans g'), h2.grow g⟩

theorem clo_any1 (w : World) (b : Nat) (v : Value) (p : UInt8 → Bool) (c : UInt8) (hv : Cls w v p) (hc : w.cell? ⟨b, 0, none⟩ = some (.int .u8 (c.toNat : Int))) :
    Calls Tryd.prog 55 #[v, .pointer (some ⟨b, 0, none⟩)] w (Ret w fun r _ => r = .bool (p c)) := by
  obtain ⟨f, caps, rfl, he, h5⟩ := hv
  have H5 := Lib.hid h5
  clear h5
  go_enter Tryd.func55, Tryd.ntmps55
  go_wp2_with fail
  refine (H5.out w (Gr.refl _) c).mono ?_
  rintro _ w2 ⟨_, rfl, g2, rfl⟩
  have G := Lib.hid g2
  clear g2
  go_wp2_with fail
  go_ret
  exact ⟨_, rfl, G.out, rfl⟩

set_option maxRecDepth 100000 in
set_option maxHeartbeats 1600000 in
theorem any_index (w : World) (b bl cap : Nat) (ps : List (UInt8 → Bool)) (c : UInt8) (hn : ps.length ≤ 100) (hcap : ps.length ≤ cap) (hr : ClsRow w b ps) (hc : ∀ w', Gr w w' → w'.cell? ⟨bl, 0, none⟩ = some (.int .u8 (c.toNat : Int))) :
    Calls Tryd.prog 62 #[.slice (some ⟨b, 0, none⟩) ps.length cap, .func (.func 55) #[] #[.pointer (some ⟨bl, 0, none⟩)]] w (Ret w fun r _ => ∃ z : Int, r = .int .i64 z ∧ decide (0 ≤ z) = ps.any (fun p => p c)) := by
  have HR := Lib.hid hr
  have HC := Lib.hid hc
  clear hr hc
  obtain ⟨n, hpn⟩ : ∃ n, ps.length = n := ⟨_, rfl⟩
  have Hn := Lib.hid hpn
  rw [hpn] at hn hcap ⊢
  clear hpn
  go_enter Tryd.func62, Tryd.ntmps62
  go_wp2_with fail
  go_loopw [8] (fun i w1 => ∃ k : Nat, i = .int .i64 k ∧ k ≤ n ∧ (∀ j (h : j < ps.length), j < k → ps[j] c = false) ∧ Gr w w1) (fun i _ => n - (RowKit.intOf i).toNat)
  case atStart => exact ⟨0, rfl, Nat.zero_le _, fun j h hj => by omega, Gr.refl _⟩
  case round =>
    obtain ⟨k, rfl, hk, hp, hg⟩ := hrel
    have Hp := Lib.hid hp
    have G := Lib.hid hg
    clear hp hg
    by_cases hlt : k < n
    · have hkl : k < ps.length := by rw [Hn.out]; exact hlt
      obtain ⟨v, hv1, hv2⟩ := HR.out k hkl
      have HV := Lib.hid hv2
      have hv := hv1 wr G.out
      clear hv1 hv2
      go_wp2_with fail
      refine (clo_any1 wr bl v ps[k] c (HV.out.grow G.out) (HC.out wr G.out)).mono ?_
      rintro _ w2 ⟨_, rfl, g2, rfl⟩
      have G := Lib.hid (G.out.trans g2)
      obtain ⟨t, ht⟩ : ∃ t, ps[k] c = t := ⟨_, rfl⟩
      rw [ht]
      have Ht := Lib.hid ht
      clear g2 ht hv
      cases t
      · go_wp2_with fail
        refine ⟨⟨k + 1, by go_num, by omega, fun j h hj => ?_, G.out⟩, by simp [RowKit.intOf]; omega⟩
        by_cases e : j = k
        · subst e; exact Ht.out
        · exact Hp.out j h (by omega)
      · go_wp2_with fail
        go_ret
        refine ⟨_, rfl, G.out, (k : Int), rfl, ?_⟩
        rw [decide_eq_true (by omega)]
        exact (List.any_eq_true.2 ⟨ps[k], List.getElem_mem hkl, Ht.out⟩).symm
    · go_wp2_with fail
      go_ret
      refine ⟨_, rfl, G.out, -1, rfl, ?_⟩
      have : ps.any (fun p => p c) = false := by
        rw [List.any_eq_false]
        intro p hpm
        obtain ⟨j, hj, rfl⟩ := List.mem_iff_getElem.1 hpm
        rw [Hp.out j hj (by rw [Hn.out] at hj; omega)]
        decide
      rw [this]; decide

theorem any_contains (w : World) (b bl cap : Nat) (ps : List (UInt8 → Bool)) (c : UInt8) (hn : ps.length ≤ 100) (hcap : ps.length ≤ cap) (hr : ClsRow w b ps) (hc : ∀ w', Gr w w' → w'.cell? ⟨bl, 0, none⟩ = some (.int .u8 (c.toNat : Int))) :
    Calls Tryd.prog 54 #[.slice (some ⟨b, 0, none⟩) ps.length cap, .func (.func 55) #[] #[.pointer (some ⟨bl, 0, none⟩)]] w (Ret w fun r _ => r = .bool (ps.any (fun p => p c))) := by
  have H := Lib.hid (any_index w b bl cap ps c hn hcap hr hc)
  clear hr hc
  go_enter Tryd.func54, Tryd.ntmps54
  go_wp2_with fail
  refine H.out.mono ?_
  rintro _ w2 ⟨_, rfl, g2, z, rfl, hz⟩
  have G := Lib.hid g2
  have Hz := Lib.hid hz
  clear g2 hz
  go_wp2_with fail
  go_ret
  exact ⟨_, rfl, G.out, by rw [← Hz.out]; rfl⟩

theorem clo_any (w : World) (bs b cap : Nat) (ps : List (UInt8 → Bool)) (c : UInt8) (hn : ps.length ≤ 100) (hcap : ps.length ≤ cap) (hr : ClsRow w b ps) (hs : w.cell? ⟨bs, 0, none⟩ = some (.slice (some ⟨b, 0, none⟩) ps.length cap)) :
    Calls Tryd.prog 53 #[.int .u8 (c.toNat : Int), .pointer (some ⟨bs, 0, none⟩)] w (Ret w fun r _ => r = .bool (ps.any (fun p => p c))) := by
  have HR := Lib.hid hr
  have B := box1 w (.int .u8 (c.toNat : Int)) 5
  have hs2 := B.1.cell hs
  clear hr
  obtain ⟨n, hpn⟩ : ∃ n, ps.length = n := ⟨_, rfl⟩
  have Hn := Lib.hid hpn
  rw [hpn] at hs hs2
  clear hpn
  go_enter Tryd.func53, Tryd.ntmps53
  go_wp2_with fail
  generalize w.heap.size = b0 at B ⊢
  generalize w.alloc _ = W at B hs2 ⊢
  obtain ⟨g, h1⟩ := B
  rw [← Hn.out]
  refine (any_contains W b b0 cap ps c hn hcap (HR.out.grow g) h1.c0).mono ?_
  rintro _ w2 ⟨_, rfl, g2, rfl⟩
  have G := Lib.hid (g.trans g2)
  clear g g2 hs2 h1
  go_wp2_with fail
  go_ret
  exact ⟨_, rfl, G.out, rfl⟩

theorem lex_anyOf (w : World) (b cap : Nat) (ps : List (UInt8 → Bool)) (hn : ps.length ≤ 100) (hcap : ps.length ≤ cap) (hr : ClsRow w b ps) :
    Calls Tryd.prog 47 #[.slice (some ⟨b, 0, none⟩) ps.length cap] w (Ret w fun r w' => Cls w' r (fun c => ps.any (fun p => p c))) := by
  have B := box1 w (.slice (some ⟨b, 0, none⟩) ps.length cap) 66
  go_enter Tryd.func47, Tryd.ntmps47
  go_wp2_with fail
  generalize w.alloc _ = W at B ⊢
  obtain ⟨g, h1⟩ := B
  go_ret
  refine ⟨_, rfl, g, ⟨53, #[.pointer (some ⟨w.heap.size, 0, none⟩)], rfl, enters_of Tryd.func53 (by kernel_rfl) rfl, fun w' g' c => ?_⟩⟩
  exact clo_any w' _ b cap ps c hn hcap (hr.grow (g.trans g')) (h1.c0 w' g')
end Go.Proofs.YtakcolmgbahgiaaDoor

/-
  exodusref16.Scan, Same.
-/
import Derived.Test.YtakcolmgbahgiaaDoorLexM
namespace Go.Proofs.YtakcolmgbahgiaaDoor
open Go.RowKit Go.Lib Lex
set_option linter.unusedVariables false
set_option linter.unusedSimpArgs false

theorem OwnT.made0 (w : World) (base : Nat) (hb : base ≤ w.heap.size) : OwnT (w.alloc (.cells #[] 33)) base (.slice (some ⟨w.heap.size, 0, none⟩) 0 0) [] :=
  World.ownsRow_made w #[] 0 hb (by simp [maxLen]) (by simp)

set_option maxRecDepth 100000 in
set_option maxHeartbeats 1600000 in
theorem ref_Scan (w : World) (bs : List UInt8) (hl : bs.length ≤ 1000000000) :
    Calls Tryd.prog 11 #[.string ⟨bs.toArray⟩] w (Ret w fun r w' => ScanRes bs r w') := by
  have G := Lib.hid (Gr.refl w)
  by_cases hbig : 16384 < bs.length
  · have hbig' : (16384 : Int) < (bs.length : Int) := by omega
    go_enter Tryd.func11, Tryd.ntmps11
    go_wp2_with fail
    go_ret3
    exact ⟨_, rfl, G.out, by unfold ScanRes scanX; rw [if_pos hbig]; rfl⟩
  · have hbig' : ¬ (16384 : Int) < (bs.length : Int) := by omega
    have ho := OwnT.made0 w w.heap.size (Nat.le_refl _)
    go_enter Tryd.func11, Tryd.ntmps11
    go_wp2_with fail
    generalize Value.slice (some ⟨w.heap.size, 0, none⟩) 0 0 = v0 at ho ⊢
    have G := Lib.hid (show Gr w (w.alloc (.cells #[] 33)) from (Gr.refl w).alloc _)
    generalize w.alloc _ = W at ho G ⊢
    have HO := Lib.hid ho
    clear ho
    obtain ⟨k0, hk0⟩ : ∃ k0, skipL false bs = k0 := ⟨_, rfl⟩
    have hS := ScanAt.start bs
    rw [hk0] at hS
    have HS := Lib.hid hS
    clear hS
    refine (ref_Skip _ bs 0 k0 (by omega) (by rw [List.drop_zero, hk0]; omega) hl).mono ?_
    rintro _ w1 ⟨_, rfl, g1, rfl⟩
    have G := Lib.hid (G.out.trans g1)
    have HO := Lib.hid (HO.out.grow g1)
    clear g1
    clear hk0
    go_wp2_with fail
    go_loopw [5, 6] (fun v i w1 => ∃ (k : Nat) (l : List Tok), i = .int .i64 k ∧ ScanAt bs k l ∧ OwnT w1 w.heap.size v l ∧ Gr w w1) (fun _ i _ => bs.length - (RowKit.intOf i).toNat)
    case atStart => exact ⟨k0, [], rfl, HS.out, HO.out, G.out⟩
    case round =>
      clear HS HO G
      obtain ⟨k, l, rfl, hs, ho, hg⟩ := hrel
      have HS := Lib.hid hs
      have HO := Lib.hid ho
      have G := Lib.hid hg
      have hk := hs.1
      have hll := hs.2.2.1
      clear hs ho hg
      by_cases hlt : k < bs.length
      · have hlt' : (k : Int) < (bs.length : Int) := by omega
        go_wp2_with fail
        refine (ref_token _ bs k hlt hl).mono ?_
        rintro _ w1 ⟨_, rfl, g1, rfl⟩
        have G := Lib.hid (G.out.trans g1)
        have HO := Lib.hid (HO.out.grow g1)
        clear g1
        cases htk : tokL (bs.drop k) with
        | error e =>
          have hne : e ≠ 0 := by have := tokL_err htk; omega
          have hne' : ¬ (e : Int) = 0 := by omega
          have HE := Lib.hid (HS.out.err htk hlt)
          clear htk
          simp only [tokRp, tokR, tokV, noTok]
          go_wp2_with fail
          go_ret3
          exact ⟨_, rfl, G.out.alloc _, by unfold ScanRes scanX; rw [if_neg hbig, HE.out]; rfl⟩
        | ok t =>
          have HTk := Lib.hid htk
          clear htk
          simp only [tokRp, tokR, tokV]
          go_wp2_with (at_builtin; refine Hold.hold ?_)
          have Hn := Lib.hid (own_ne HO.out)
          have B := box44 w1 (.int .i64 (t.kind : Nat)) (.string ⟨t.text.toArray⟩) (.int .i64 (t.num : Nat)) (.int .i64 (k : Nat)) (.int .i64 (t.kind : Nat)) (.string ⟨t.text.toArray⟩) (.int .i64 (t.num : Nat)) (.int .i64 (k : Nat)) 33 33
          generalize w1.heap.size + 1 = b8 at B ⊢
          generalize w1.heap.size = b7 at B Hn ⊢
          generalize (w1.alloc _).alloc _ = w2 at B ⊢
          obtain ⟨g2, t7, t8⟩ := B
          have G := Lib.hid (G.out.trans g2)
          have HO := Lib.hid (HO.out.grow g2)
          clear g2
          have T7 := Lib.hid t7
          clear t7
          refine Hold.go ?_
          refine wpList_appendT rfl _ _ rfl w.heap.size _ l ⟨t.kind, t.text, t.num, k⟩ b8 1 rfl HO.out rfl t8 (by omega) G.out.size ?_
          intro v' w3 hown' hgrown
          have G' := own_gr G.out HO.out hgrown
          have t7 := T7.out.grown hgrown Hn.out
          clear HO T7 G t8 hgrown Hn
          have HO := Lib.hid hown'
          have G := Lib.hid G'
          have T7 := Lib.hid t7
          clear hown' G' t7
          obtain ⟨n, hn⟩ : ∃ n, k + t.text.length = n := ⟨_, rfl⟩
          obtain ⟨m, hm⟩ : ∃ m, n + skipL false (bs.drop n) = m := ⟨_, rfl⟩
          have HN := HS.out.next HTk.out hn hm
          have hnl := HN.2.2
          have hkm := HN.2.1
          have HN := Lib.hid HN.1
          have E1 : (k : Int) + (t.text.length : Int) = (n : Int) := by omega
          have hmb : m ≤ bs.length := HN.out.1
          clear hn
          have T7_0 := T7.out.load.1
          have T7_1 := T7.out.load.2.1
          have T7_2 := T7.out.load.2.2.1
          have T7_3 := T7.out.load.2.2.2
          go_wp2_with fail
          refine (ref_Skip _ bs n m hnl hm hl).mono ?_
          rintro _ w4 ⟨_, rfl, g4, rfl⟩
          clear T7_0 T7_1 T7_2 T7_3
          have G := Lib.hid (G.out.trans g4)
          have T7 := Lib.hid (T7.out.grow g4)
          have HO := Lib.hid (HO.out.grow g4)
          clear g4
          go_wp2_with fail
          refine ⟨⟨m, _, rfl, HN.out, HO.out, G.out⟩, by simp [RowKit.intOf]; omega⟩
      · obtain rfl : k = bs.length := by omega
        have HE := Lib.hid (HS.out.stop rfl)
        go_wp2_with (at_builtin; refine Hold.hold ?_)
        have B := box4 wr (.int .i64 0) (.string ⟨#[]⟩) (.int .i64 0) (.int .i64 (bs.length : Nat)) 33
        generalize wr.heap.size = b8 at B ⊢
        generalize wr.alloc _ = w2 at B ⊢
        obtain ⟨g2, t8⟩ := B
        have G := Lib.hid (G.out.trans g2)
        have HO := Lib.hid (HO.out.grow g2)
        clear g2
        refine Hold.go ?_
        refine wpList_appendT rfl _ _ rfl w.heap.size _ l ⟨0, [], 0, bs.length⟩ b8 1 rfl HO.out rfl t8 (by omega) G.out.size ?_
        intro v' w3 hown' hgrown
        have G' := own_gr G.out HO.out hgrown
        go_wp2_with fail
        go_ret3
        exact ⟨_, rfl, G', by unfold ScanRes scanX; rw [if_neg hbig, HE.out]; exact ⟨_, rfl, hown'.read⟩⟩

theorem tok_ext {x y : Tok} (h1 : (x.kind : Int) = (y.kind : Int)) (h2 : x.text = y.text) (h3 : (x.num : Int) = (y.num : Int)) (h4 : (x.pos : Int) = (y.pos : Int)) : x = y := by
  cases x; cases y
  simp at h1 h2 h3 h4 ⊢
  exact ⟨by omega, h2, by omega, by omega⟩
/-- the cells of token k of a slice -/
theorem TokS.at {w : World} {p : Option Addr} {n c : Nat} {l : List Tok} (h : TokS w (.slice p n c) l) (hn : l.length = n) {k : Nat} (hk : k < n) : ∃ b o t, p = some ⟨b, o, none⟩ ∧ l[k]? = some t ∧
    w.cell? ⟨b, o + k * 4, none⟩ = some (.int .i64 (t.kind : Nat)) ∧ w.cell? ⟨b, o + k * 4 + 1, none⟩ = some (.string ⟨t.text.toArray⟩) ∧ w.cell? ⟨b, o + k * 4 + 2, none⟩ = some (.int .i64 (t.num : Nat)) ∧ w.cell? ⟨b, o + k * 4 + 3, none⟩ = some (.int .i64 (t.pos : Nat)) := by
  unfold TokS at h
  rw [hn] at h
  obtain ⟨b, o, rfl, hc⟩ := SlV.cells h (by omega)
  obtain ⟨t, ht⟩ : ∃ t, l[k]? = some t := ⟨_, List.getElem?_eq_getElem (by omega)⟩
  have key : ∀ j v, j < 4 → (cellsT t)[j]? = some v → w.cell? ⟨b, o + k * 4 + j, none⟩ = some v := fun j v hj hv => by
    rw [show o + k * 4 + j = o + (4 * k + j) by omega]
    exact hc _ _ ((rowT_get l k t j ht hj).trans hv)
  exact ⟨b, o, t, rfl, ht, key 0 _ (by decide) rfl, key 1 _ (by decide) rfl, key 2 _ (by decide) rfl, key 3 _ (by decide) rfl⟩

set_option maxRecDepth 100000 in
set_option maxHeartbeats 1600000 in
theorem ref_Same (w : World) (va vb : Value) (la lb : List Tok) (ha : TokS w va la) (hb : TokS w vb lb) (hla : la.length ≤ 1000000000) (hlb : lb.length ≤ 1000000000) :
    Calls Tryd.prog 12 #[va, vb] w (Ret w fun r _ => ∃ t, r = .bool t ∧ (t = true ↔ la = lb)) := by
  obtain ⟨p, c, rfl, hc1, hc2⟩ := SlV.parts ha
  obtain ⟨p', c', rfl, hc1', hc2'⟩ := SlV.parts hb
  have G := Lib.hid (Gr.refl w)
  obtain ⟨n, hn⟩ : ∃ n, la.length = n := ⟨_, rfl⟩
  obtain ⟨m, hm⟩ : ∃ m, lb.length = m := ⟨_, rfl⟩
  have HN := Lib.hid hn
  have HM := Lib.hid hm
  rw [hn] at hla ha hc1 ⊢
  rw [hm] at hlb hb hc1' ⊢
  have HA := Lib.hid ha
  have HB := Lib.hid hb
  clear ha hb hn hm
  by_cases hnm : n = m
  · subst hnm
    go_enter Tryd.func12, Tryd.ntmps12
    go_wp2_with fail
    go_loopw [5] (fun i w1 => ∃ k : Nat, i = .int .i64 k ∧ k ≤ n ∧ la.take k = lb.take k ∧ Gr w w1) (fun i _ => n - (RowKit.intOf i).toNat)
    case atStart => exact ⟨0, rfl, Nat.zero_le _, rfl, G.out⟩
    case round =>
      clear G
      obtain ⟨k, rfl, hk, hp, hg⟩ := hrel
      have HP := Lib.hid hp
      have G := Lib.hid hg
      clear hp hg
      by_cases hlt : k < n
      · have hlt' : (k : Int) < (n : Int) := by omega
        obtain ⟨b, o, x, rfl, hx, c0, c1, c2, c3⟩ := HA.out.at HN.out hlt
        obtain ⟨b', o', y, rfl, hy, d0, d1, d2, d3⟩ := HB.out.at HM.out hlt
        have c0 := fun w' (g : Gr wr w') => (G.out.trans g).cell c0
        have c1 := fun w' (g : Gr wr w') => (G.out.trans g).cell c1
        have c2 := fun w' (g : Gr wr w') => (G.out.trans g).cell c2
        have c3 := fun w' (g : Gr wr w') => (G.out.trans g).cell c3
        have d0 := fun w' (g : Gr wr w') => (G.out.trans g).cell d0
        have d1 := fun w' (g : Gr wr w') => (G.out.trans g).cell d1
        have d2 := fun w' (g : Gr wr w') => (G.out.trans g).cell d2
        have d3 := fun w' (g : Gr wr w') => (G.out.trans g).cell d3
        have HX := Lib.hid hx
        have HY := Lib.hid hy
        clear hx hy
        by_cases hxy : x = y
        · subst hxy
          have HS := Lib.hid (show la.take (k + 1) = lb.take (k + 1) by rw [List.take_add_one, List.take_add_one, HP.out, HX.out, HY.out])
          go_wp2_with fail
          refine wp_region_fast [(0, true), (1, true), (2, true), (3, true), (4, true), (5, true), (6, true), (7, true), (8, true)] (by kernel_rfl) (by kernel_rfl) rfl (by kernel_rfl) (fun _ _ d _ _ h => by cases d <;> exact h) ?_
          have g0 : Gr wr wr.drew := (Gr.refl _).drew
          have G := Lib.hid (G.out.trans g0)
          repeat (refine wpE_readB (v := ?_) g0 rfl rfl (fun w' hg => ?_) (fun K hK => ?_); rotate_left; (go_simp; rfl); go_simp; refine hK _ _ ?_; clear hK K)
          refine wpE_nil ?_
          go_wp2_with fail
          refine ⟨⟨k + 1, by go_num, by omega, HS.out, G.out⟩, by simp [RowKit.intOf]; omega⟩
        · have HS := Lib.hid (show la ≠ lb from fun e => by
            have h1 := HX.out
            rw [e, HY.out] at h1
            exact hxy (by simpa using h1.symm))
          have Hxy := Lib.hid hxy
          clear hxy
          go_wp2_with fail
          refine wp_region_fast [(0, true), (1, true), (2, true), (3, true), (4, true), (5, true), (6, true), (7, true), (8, true)] (by kernel_rfl) (by kernel_rfl) rfl (by kernel_rfl) (fun _ _ d _ _ h => by cases d <;> exact h) ?_
          have g0 : Gr wr wr.drew := (Gr.refl _).drew
          have G := Lib.hid (G.out.trans g0)
          repeat (refine wpE_readB (v := ?_) g0 rfl rfl (fun w' hg => ?_) (fun K hK => ?_); rotate_left; (go_simp; rfl); go_simp; refine hK _ _ ?_; clear hK K)
          refine wpE_readB (v := .bool true) g0 rfl rfl (fun w' hg => ?_) (fun K hK => ?_)
          · go_simp
            exact fun e1 e2 e3 e4 => absurd (tok_ext e1 e2 e3 e4) Hxy.out
          go_simp
          refine hK _ _ ?_
          clear hK K
          refine wpE_nil ?_
          go_wp2_with fail
          go_ret
          exact ⟨_, rfl, G.out, _, rfl, by simpa using HS.out⟩
      · obtain rfl : n = k := by omega
        have HS := Lib.hid (show la = lb by
          have := HP.out
          rwa [List.take_of_length_le (by rw [HN.out]; exact Nat.le_refl _), List.take_of_length_le (by rw [HM.out]; exact Nat.le_refl _)] at this)
        go_wp2_with fail
        go_ret
        exact ⟨_, rfl, G.out, _, rfl, by simpa using HS.out⟩
  · have hnm' : ¬ (n : Int) = (m : Int) := by omega
    go_enter Tryd.func12, Tryd.ntmps12
    go_wp2_with fail
    go_ret
    exact ⟨_, rfl, G.out, _, rfl, by simp; exact fun e => hnm (by rw [← HN.out, ← HM.out, e])⟩
end Go.Proofs.YtakcolmgbahgiaaDoor

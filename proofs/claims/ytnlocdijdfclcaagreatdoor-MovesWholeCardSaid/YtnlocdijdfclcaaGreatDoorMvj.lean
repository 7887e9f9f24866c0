/-
  moves.Candidates: its closure.
  moves.Candidates, exodusref23.Candidates.
-/
import Derived.Test.YtnlocdijdfclcaaGreatDoorMvb
import Derived.Test.YtnlocdijdfclcaaGreatDoorMvo
import Derived.Test.YtnlocdijdfclcaaGreatDoorApp
import Derived.Test.YtnlocdijdfclcaaGreatDoorCatP
import Derived.Test.YtnlocdijdfclcaaGreatDoorPlp
namespace Go.Proofs.YtnlocdijdfclcaaGreatDoor
open Go.RowKit Go.Lib Lex
set_option linter.unusedVariables false
set_option linter.unusedSimpArgs false

def keepIf (t : Bool) (x : MvM) : List MvM := if t = true then [x] else []
def CI (B : World) (bo : Nat) (l : List MvM) (w : World) : Prop := ∃ v, Cells w bo #[v] ∧ OwnM w B.heap.size v l ∧ Gr B w ∧ B.heap.size ≤ bo ∧ v.ownBlock ≠ some bo
theorem CI.grow {B w w' : World} {bo : Nat} {l : List MvM} (h : CI B bo l w) (g : Gr w w') : CI B bo l w' := by
 obtain ⟨v, h1, h2, h3, h4, h5⟩ := h
 exact ⟨v, h1.grow g, h2.grow g, h3.trans g, h4, h5⟩
set_option maxRecDepth 100000 in
set_option maxHeartbeats 1600000 in
theorem cand_clo (w B : World) (P : Ptrs) (M : Mdl) (bm bo : Nat) (l : List MvM) (x : MvM) (hm : MdlAt B P M) (hf : Few M) (hv : MdlOK M) (hb : Cells B bm (mcells P M)) (h : CI B bo l w) (hl : l.length ≤ 1000000000) :
  Calls Tryz.prog 40 #[.agg (moveV x), .pointer (some ⟨bm, 0, none⟩), .pointer (some ⟨bo, 0, none⟩)] w fun r w' => r = .returned (.tuple #[]) ∧ CI B bo (l ++ keepIf (fitsM M x) x) w' := by
 have HM := Lib.hid hm
 have HF := Lib.hid hf
 have HV := Lib.hid hv
 have HCI := Lib.hid h
 have gw : Gr B w := by obtain ⟨v, _, _, g, _⟩ := h; exact g
 have B1 := Cells.new w (moveV x) 34
 have TM := Lib.hid (hb.grow (gw.trans B1.1))
 have TX := Lib.hid B1.2
 have HCI := Lib.hid (HCI.out.grow B1.1)
 have HM1 := Lib.hid (HM.out.grow (gw.trans B1.1))
 have m0 := mc0 TM.out _ (Gr.refl _)
 have m1 := mc1 TM.out _ (Gr.refl _)
 have m2 := mc2 TM.out _ (Gr.refl _)
 have m3 := mc3 TM.out _ (Gr.refl _)
 have m4 := mc4 TM.out _ (Gr.refl _)
 have m5 := mc5 TM.out _ (Gr.refl _)
 have m6 := mc6 TM.out _ (Gr.refl _)
 have m7 := mc7 TM.out _ (Gr.refl _)
 have m8 := mc8 TM.out _ (Gr.refl _)
 have m9 := mc9 TM.out _ (Gr.refl _)
 have m10 := mc10 TM.out _ (Gr.refl _)
 have x0 : World.cell? _ ⟨_, 0, none⟩ = some (.int .i64 x.item) := (B1.2).at 0 rfl
 have x1 : World.cell? _ ⟨_, 1, none⟩ = some (.int .i64 x.frm) := (B1.2).at 1 rfl
 have x2 : World.cell? _ ⟨_, 2, none⟩ = some (.int .i64 x.to) := (B1.2).at 2 rfl
 clear hm hf hv hb h B1 gw
 unfold moveV at TX TM HCI HM1 m0 m1 m2 m3 m4 m5 m6 m7 m8 m9 m10 x0 x1 x2 ⊢
 go_enter Tryz.func40, Tryz.ntmps40
 go_wp2_with fail
 clear m0 m1 m2 m3 m4 m5 m6 m7 m8 m9 m10 x0 x1 x2
 generalize w.heap.size = bx at TX ⊢
 generalize w.alloc _ = W at TX TM HCI HM1 ⊢
 have TX := Lib.hid (show Cells W bx (moveV x) from TX.out)
 refine (mv_fits W P M x HM1.out HF.out HV.out).mono ?_
 rintro _ w2 ⟨_, rfl, g2, rfl⟩
 have HCI := Lib.hid (HCI.out.grow g2)
 have TX := Lib.hid (TX.out.grow g2)
 clear HM1 TM
 obtain ⟨t, ht⟩ : ∃ t, fitsM M x = t := ⟨_, rfl⟩
 rw [ht]
 have HT := Lib.hid ht
 clear ht g2
 cases t
 ·go_wp2_with fail
  go_end0
  refine ⟨rfl, ?_⟩
  rw [HT.out, show keepIf false x = [] from rfl, List.append_nil]
  exact HCI.out
 ·obtain ⟨v, h1, h2, h3, h4, h5⟩ := HCI.out
  have T3 := Lib.hid h1
  have HO := Lib.hid h2
  have HG := Lib.hid h3
  have HB := Lib.hid h4
  have HN := Lib.hid h5
  clear h1 h2 h3 h4 h5 HCI
  have d0 := T3.out.at 0 rfl
  have x0 : World.cell? _ ⟨_, 0, none⟩ = some (.int .i64 x.item) := (TX.out).at 0 rfl
  have x1 : World.cell? _ ⟨_, 1, none⟩ = some (.int .i64 x.frm) := (TX.out).at 1 rfl
  have x2 : World.cell? _ ⟨_, 2, none⟩ = some (.int .i64 x.to) := (TX.out).at 2 rfl
  go_wp2_with (at_builtin; refine Hold.hold ?_)
  clear d0 x0 x1 x2
  have B8 := SlL.new w2 34 encMv_len [x] #[.int .i64 x.item, .int .i64 x.frm, .int .i64 x.to] 1 rfl rfl (by decide)
  have hz : (w2.alloc (.cells #[.int .i64 x.item, .int .i64 x.frm, .int .i64 x.to] 34)).heap.size = w2.heap.size + 1 := World.size_alloc _ _
  generalize hb8 : w2.heap.size = b8 at B8 hz ⊢
  generalize w2.alloc _ = w8 at B8 hz ⊢
  obtain ⟨g8, t8⟩ := B8
  refine Hold.go ?_
  refine wpList_appendB rfl _ _ 47 34 _ 24 rfl Tryz.underlying47 mv_info rfl (by decide) encMv_len encMv_one B.heap.size v _ l [x] rfl (HO.out.grow g8) rfl t8 (by simp; omega) (by simp; omega) ((HG.out.trans g8).size) (by simp) ?_
  intro v' w9 ho9 k9 hblk
  obtain ⟨p9, c9, rfl, _, _⟩ := (OwnL.read ho9).parts
  have hne3 : some bo ≠ v.ownBlock := fun e => HN.out e.symm
  have T9 := (T3.out.grow g8).grown k9 hne3
  have hlt3 := T3.out.lt
  have hne9 : (Value.slice p9 (l ++ [x]).length c9).ownBlock ≠ some bo := by
   rcases hblk with e | e
   ·rw [e]; exact hne3.symm
   ·rw [e, hz]; intro e; injection e with e; omega
  have G9 := (HO.out.grow g8).gr (HG.out.trans g8) k9
  have d0 := T9.at 0 rfl
  have f0 := Cells.f T9 0
  have HX := Lib.hid (show CI B bo (l ++ [x]) (w9.setCell ⟨bo, 0, none⟩ (.slice p9 (l ++ [x]).length c9)) from by
   refine ⟨(.slice p9 (l ++ [x]).length c9), ?_, OwnL.other ho9 hne9, G9.set (by have := HB.out; omega) _, HB.out, hne9⟩
   have := T9.set 0 (.slice p9 (l ++ [x]).length c9)
   simpa using this)
  clear hb8 T9 G9 hblk hne9 hne3 k9 ho9 hz g8 t8 hlt3
  go_wp2_with fail
  go_end0
  refine ⟨rfl, ?_⟩
  rw [HT.out]
  show CI B bo (l ++ [x]) _
  have := HX.out
  rw [show (l ++ [x]).length = l.length + 1 by simp] at this
  exact this
end Go.Proofs.YtnlocdijdfclcaaGreatDoor
namespace Go.Proofs.YtnlocdijdfclcaaGreatDoor
open Go.RowKit Go.Lib Lex
set_option linter.unusedVariables false
set_option linter.unusedSimpArgs false

def candsTo (M : Mdl) (j : Nat) : List MvM := ((allM M).take j).filter (fitsM M)
theorem candsTo_zero (M : Mdl) : candsTo M 0 = [] := by unfold candsTo; simp
theorem candsTo_step {M : Mdl} {i f t : Nat} (hi : i < M.items.length) (hf : f < M.machs.length + 1) (ht : t < M.machs.length + 1) :
  candsTo M ((i * (M.machs.length + 1) + f) * (M.machs.length + 1) + (t + 1)) = candsTo M ((i * (M.machs.length + 1) + f) * (M.machs.length + 1) + t) ++ keepIf (fitsM M ⟨(i : Int) + 1, (f : Int), (t : Int)⟩) ⟨(i : Int) + 1, (f : Int), (t : Int)⟩ := by
 have h := allM_at hi hf ht
 unfold candsTo
 rw [← Nat.add_assoc, List.take_add_one, h, List.filter_append]
 congr 1
 unfold keepIf
 cases hc : fitsM M ⟨(i : Int) + 1, (f : Int), (t : Int)⟩
 ·simp [hc]
 ·simp [hc]
theorem candsTo_all {M : Mdl} {j : Nat} (h : j = M.items.length * (M.machs.length + 1) * (M.machs.length + 1)) : candsTo M j = candsM M := by
 unfold candsTo candsM
 rw [List.take_of_length_le (by rw [allM_len]; omega)]
theorem candsTo_len (M : Mdl) (j : Nat) (hf : Few M) : (candsTo M j).length ≤ 15000 := by
 unfold candsTo
 have h1 := List.length_filter_le (fitsM M) ((allM M).take j)
 have h2 := List.length_take_le j (allM M)
 have h3 := List.length_take_le' j (allM M)
 rw [allM_len] at h3
 have h4 : M.items.length * (M.machs.length + 1) ≤ 24 * 25 := Nat.mul_le_mul hf.1.2.2.2.2.2.1 (by have := hf.1.2.2.2.1; omega)
 have h5 : M.items.length * (M.machs.length + 1) * (M.machs.length + 1) ≤ 24 * 25 * 25 := Nat.mul_le_mul h4 (by have := hf.1.2.2.2.1; omega)
 omega
theorem row_end (i q : Nat) : (i * q + 0) * q + 0 = i * q * q := by simp
theorem row_next (i f q : Nat) : (i * q + f) * q + q = (i * q + (f + 1)) * q + 0 := by rw [← Nat.add_assoc, Nat.add_mul (i * q + f) 1 q]; omega
theorem item_next (i q : Nat) : (i * q + q) * q + 0 = ((i + 1) * q + 0) * q + 0 := by rw [Nat.add_mul i 1 q]; simp
def CandR (M : Mdl) (r : Value) (w' : World) : Prop := (¬ MdlOK M ∧ r = .tuple #[.slice none 0 0, .int .i64 1]) ∨ (MdlOK M ∧ 200 < (candsM M).length ∧ r = .tuple #[.slice none 0 0, .int .i64 8]) ∨
 (MdlOK M ∧ (candsM M).length ≤ 200 ∧ ∃ p c, r = .tuple #[.slice p (candsM M).length c, .int .i64 0] ∧ MvL w' (.slice p (candsM M).length c) (candsM M))
set_option maxRecDepth 100000 in
set_option maxHeartbeats 1600000 in
theorem mv_Candidates (w : World) (P : Ptrs) (M : Mdl) (hm : MdlAt w P M) (hf : Few M) (ht : Tab w) :
  Calls Tryz.prog 17 #[.agg (mcells P M)] w (Ret w fun r w' => CandR M r w') := by
 have HT := Lib.hid ht
 have HF := Lib.hid hf
 clear ht hf
 have HM := Lib.hid hm
 have B := Cells.new w (mcells P M) 29
 clear hm
 have m0 := mc0 B.2 _ (Gr.refl _)
 have m1 := mc1 B.2 _ (Gr.refl _)
 have m2 := mc2 B.2 _ (Gr.refl _)
 have m3 := mc3 B.2 _ (Gr.refl _)
 have m4 := mc4 B.2 _ (Gr.refl _)
 have m5 := mc5 B.2 _ (Gr.refl _)
 have m6 := mc6 B.2 _ (Gr.refl _)
 have m7 := mc7 B.2 _ (Gr.refl _)
 have m8 := mc8 B.2 _ (Gr.refl _)
 have m9 := mc9 B.2 _ (Gr.refl _)
 have m10 := mc10 B.2 _ (Gr.refl _)
 unfold mcells at B m0 m1 m2 m3 m4 m5 m6 m7 m8 m9 m10 ⊢
 go_enter Tryz.func17, Tryz.ntmps17
 go_wp2_with fail
 clear m0 m1 m2 m3 m4 m5 m6 m7 m8 m9 m10
 generalize w.heap.size = bm at B ⊢
 generalize w.alloc _ = W at B ⊢
 obtain ⟨g0, tm⟩ := B
 have TM := Lib.hid (show Cells W bm (mcells P M) from tm)
 have G := Lib.hid g0
 have HM := Lib.hid (HM.out.grow g0)
 clear g0 tm
 have m0 := mc0 TM.out _ (Gr.refl _)
 have m1 := mc1 TM.out _ (Gr.refl _)
 have m2 := mc2 TM.out _ (Gr.refl _)
 have m3 := mc3 TM.out _ (Gr.refl _)
 have m4 := mc4 TM.out _ (Gr.refl _)
 have m5 := mc5 TM.out _ (Gr.refl _)
 have m6 := mc6 TM.out _ (Gr.refl _)
 have m7 := mc7 TM.out _ (Gr.refl _)
 have m8 := mc8 TM.out _ (Gr.refl _)
 have m9 := mc9 TM.out _ (Gr.refl _)
 have m10 := mc10 TM.out _ (Gr.refl _)
 clear m0 m1 m2 m3 m4 m5 m6 m7 m8 m9 m10
 refine (cat_Valid W P M HM.out HF.out (HT.out.grow G.out)).mono ?_
 rintro _ w1 ⟨r1, rfl, g1, h⟩
 have G := Lib.hid (G.out.trans g1)
 have TM := Lib.hid (TM.out.grow g1)
 have HM := Lib.hid (HM.out.grow g1)
 clear g1
 rcases h.cases with ⟨rfl, k1⟩ | ⟨rfl, k1⟩
 ·have HV := Lib.hid k1
  clear h k1
  have B := Cells.new w1 #[.slice none 0 0] 47
  have m3 := mc3 TM.out _ B.1
  have m5 := mc5 TM.out _ B.1
  have hci : CI w1 w1.heap.size [] (w1.alloc (.cells #[.slice none 0 0] 47)) := ⟨_, B.2, OwnL.nil _ _ _, B.1, Nat.le_refl _, by intro h; cases h⟩
  have HCI := Lib.hid hci
  clear hci B
  go_wp2_with fail
  clear m3 m5
  generalize w1.heap.size = bo at HCI ⊢
  generalize w1.alloc _ = W2 at HCI ⊢
  have hfi := HF.out.1.2.2.2.2.2.1
  have hfm := HF.out.1.2.2.2.1
  go_loopw [16] (fun i w9 => ∃ k : Nat, i = .int .i64 (k : Int) ∧ k ≤ M.items.length ∧ CI w1 bo (candsTo M ((k * (M.machs.length + 1) + 0) * (M.machs.length + 1) + 0)) w9) (fun i _ => M.items.length - (RowKit.intOf i).toNat)
  case atStart => exact ⟨0, rfl, Nat.zero_le _, by simpa [candsTo_zero] using HCI.out⟩
  case round =>
   clear HCI
   obtain ⟨k, rfl, hk, hci⟩ := hrel
   have HCI := Lib.hid hci
   clear hci
   have gk : Gr w1 wr := by obtain ⟨v, _, _, g, _⟩ := HCI.out; exact g
   by_cases hlt : k < M.items.length
   ·have hlt' : (k : Int) < (M.items.length : Int) := by omega
    have m3 := mc3 TM.out _ gk
    clear gk
    go_wp2_with fail
    clear m3
    go_loopw [23] (fun i w9 => ∃ f : Nat, i = .int .i64 (f : Int) ∧ f ≤ M.machs.length + 1 ∧ CI w1 bo (candsTo M ((k * (M.machs.length + 1) + f) * (M.machs.length + 1) + 0)) w9) (fun i _ => M.machs.length + 1 - (RowKit.intOf i).toNat)
    case atStart => exact ⟨0, rfl, Nat.zero_le _, HCI.out⟩
    case round =>
     clear HCI
     obtain ⟨f, rfl, hfk, hci⟩ := hrel
     have HCI := Lib.hid hci
     clear hci
     have gk : Gr w1 wr := by obtain ⟨v, _, _, g, _⟩ := HCI.out; exact g
     by_cases hltf : f < M.machs.length + 1
     ·have hltf' : (f : Int) < (M.machs.length : Int) + 1 := by omega
      have m3 := mc3 TM.out _ gk
      clear gk
      go_wp2_with fail
      clear m3
      go_loopw [30] (fun i w9 => ∃ t : Nat, i = .int .i64 (t : Int) ∧ t ≤ M.machs.length + 1 ∧ CI w1 bo (candsTo M ((k * (M.machs.length + 1) + f) * (M.machs.length + 1) + t)) w9) (fun i _ => M.machs.length + 1 - (RowKit.intOf i).toNat)
      case atStart => exact ⟨0, rfl, Nat.zero_le _, HCI.out⟩
      case round =>
       clear HCI
       obtain ⟨t, rfl, htk, hci⟩ := hrel
       have HCI := Lib.hid hci
       clear hci
       by_cases hltt : t < M.machs.length + 1
       ·have hltt' : (t : Int) < (M.machs.length : Int) + 1 := by omega
        go_wp2_with fail
        refine (cand_clo _ w1 P M bm bo (candsTo M ((k * (M.machs.length + 1) + f) * (M.machs.length + 1) + t)) ⟨(k : Int) + 1, (f : Int), (t : Int)⟩ HM.out HF.out HV.out TM.out HCI.out (by have := candsTo_len M ((k * (M.machs.length + 1) + f) * (M.machs.length + 1) + t) HF.out; omega)).mono ?_
        rintro _ w3 ⟨rfl, hci⟩
        have HCI := Lib.hid hci
        clear hci
        go_wp2_with fail
        refine ⟨⟨t + 1, by go_num, by omega, ?_⟩, by simp [RowKit.intOf]; omega⟩
        rw [candsTo_step hlt hltf hltt]
        exact HCI.out
       ·obtain rfl : t = M.machs.length + 1 := by omega
        go_wp2_with fail
        refine ⟨⟨f + 1, by go_num, by omega, ?_⟩, by simp [RowKit.intOf]; omega⟩
        rw [← row_next]
        exact HCI.out
     ·obtain rfl : f = M.machs.length + 1 := by omega
      go_wp2_with fail
      refine ⟨⟨k + 1, by go_num, by omega, ?_⟩, by simp [RowKit.intOf]; omega⟩
      rw [← item_next]
      exact HCI.out
   ·obtain rfl : k = M.items.length := by omega
    clear gk
    obtain ⟨v, h1, h2, h3, h4, h5⟩ := HCI.out
    rw [row_end, candsTo_all rfl] at h2
    obtain ⟨p, c, rfl, hc1, hc2⟩ := h2.read.parts
    have HL := Lib.hid h2.read
    have hcl := candsTo_len M (M.items.length * (M.machs.length + 1) * (M.machs.length + 1)) HF.out
    rw [candsTo_all rfl] at hcl
    have d0 := h1.at 0 rfl
    have G := Lib.hid (G.out.trans h3)
    clear h1 h2 h3 h4 h5 HCI
    by_cases h200 : 200 < (candsM M).length
    ·have h200' : (200 : Int) < ((candsM M).length : Int) := by omega
     have H200 := Lib.hid h200
     clear h200
     go_wp2_with fail
     try rw [Exit.noGoto_ret]
     go_ret2
     exact ⟨_, rfl, G.out, .inr (.inl ⟨HV.out, H200.out, rfl⟩)⟩
    ·have h200' : ((candsM M).length : Int) ≤ 200 := by omega
     have H200 := Lib.hid (show (candsM M).length ≤ 200 by omega)
     clear h200
     go_wp2_with fail
     go_ret2
     exact ⟨_, rfl, G.out, .inr (.inr ⟨HV.out, H200.out, p, c, rfl, HL.out⟩)⟩
 ·have HV := Lib.hid k1
  clear h k1
  go_wp2_with fail
  try rw [Exit.noGoto_ret]
  go_ret2
  exact ⟨_, rfl, G.out, .inl ⟨HV.out, rfl⟩⟩
end Go.Proofs.YtnlocdijdfclcaaGreatDoor

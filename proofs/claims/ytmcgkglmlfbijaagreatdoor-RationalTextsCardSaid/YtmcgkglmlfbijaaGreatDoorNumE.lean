/-
  exodusref01.Parse.
-/
import Derived.Test.YtmcgkglmlfbijaaGreatDoorNumD
import Derived.Test.YtmcgkglmlfbijaaGreatDoorTree
namespace Go.Proofs.YtmcgkglmlfbijaaGreatDoor
open Go.RowKit Go.Sort Go.Lib
set_option linter.unusedVariables false
set_option linter.unusedSimpArgs false

theorem NatL.empty (w : World) (p : Option Addr) (b o : Nat) (h : p = some ⟨b, o, none⟩) : NatL w (.slice p 0 0) [] :=
  ⟨Dig.nil, p, 0, rfl, Nat.le_refl _, by omega, .inr ⟨b, o, h, fun i hi => by cases hi⟩⟩

set_option maxRecDepth 100000 in
set_option maxHeartbeats 3200000 in
theorem ref_Parse' (w : World) (xs bs : List UInt8) (hx : xs = bs) (hbs : bs.length ≤ 140737488355328) :
    Calls Tryz.prog 93 #[.string ⟨xs.toArray⟩] w (Ret w fun r w' => ParseRes bs r w') := by
  have Hx := Lib.hid hx
  rw [← hx] at hbs
  clear hx
  cases xs with
  | nil =>
    go_enter Tryz.func93, Tryz.ntmps93
    go_wp2_with fail
    go_ret2
    exact ⟨_, rfl, Gr.refl _, by rw [← Hx.out]; exact ParseRes.bad rfl⟩
  | cons c cs =>
    have e0 : (⟨(c :: cs).toArray⟩ : ByteArray)[0]'(by simp [ByteArray.size]) = c := rfl
    by_cases h4 : cs.length + 1 ≤ 4000
    · by_cases hz : c = 48 ∧ cs ≠ []
      · obtain ⟨rfl, hcs⟩ := hz
        have hcs2 : 0 < cs.length := List.length_pos_iff.2 hcs
        go_enter Tryz.func93, Tryz.ntmps93
        go_wp2_with fail
        go_ret2
        exact ⟨_, rfl, Gr.refl _, by rw [← Hx.out]; exact ParseRes.bad (by simp [okText, hcs])⟩
      · have hok : ∀ h : bs.all isDig = true, okText bs = true := fun h => by
          rw [← Hx.out] at h ⊢
          unfold okText
          rw [h]
          simp [h4]
          by_cases hc : c = 48
          · right; exact ⟨hc, Classical.byContradiction fun e => hz ⟨hc, e⟩⟩
          · left; exact hc
        have hbad : ∀ h : bs.all isDig = false, okText bs = false := fun h => by unfold okText; rw [h]; simp
        have Hok := Lib.hid hok
        have Hbad := Lib.hid hbad
        have Hl := Lib.hid (show bs.length ≤ 4000 by rw [← Hx.out]; exact h4)
        have hz2 : c = 48 → cs = [] := fun e => Classical.byContradiction fun e2 => hz ⟨e, e2⟩
        clear hok hbad hz
        by_cases hcs : cs = []
        · obtain rfl := hcs
          clear hz2
          go_enter Tryz.func93, Tryz.ntmps93
          go_wp2_with fail
          have hstr : (⟨#[c]⟩ : ByteArray) = ⟨bs.toArray⟩ := by rw [← Hx.out]
          rw [hstr]
          clear e0 h4 hbs hstr
          go_loopw [4, 5] (fun vo i w1 => ∃ k : Nat, k ≤ bs.length ∧ i = .int .i64 k ∧ (bs.take k).all isDig = true ∧ NatL w1 vo (digs (decVal (bs.take k))) ∧ Gr w w1) (fun _ i _ => bs.length - (RowKit.intOf i).toNat)
          case atStart => exact ⟨0, Nat.zero_le _, rfl, rfl, by rw [show decVal (bs.take 0) = 0 from rfl, digs_eq_nil.2 rfl]; exact NatL.empty _ _ _ _ rfl, (Gr.refl w).alloc _⟩
          case round =>
            obtain ⟨k, hk, rfl, hd, hvo, hg⟩ := hrel
            have Hd := Lib.hid hd
            have Hv := Lib.hid hvo
            have Hg := Lib.hid hg
            clear hd hvo hg
            obtain ⟨L, hL⟩ : ∃ L, bs.length = L := ⟨_, rfl⟩
            have hsz : (⟨bs.toArray⟩ : ByteArray).size = L := hL
            have hL4 : L ≤ 4000 := by rw [← hL]; exact Hl.out
            rw [hL] at hk
            by_cases hlt : k < L
            · obtain ⟨c, hc⟩ : ∃ c, bs[k]? = some c := ⟨_, List.getElem?_eq_getElem (by rw [hL]; omega)⟩
              have hidx : ∀ h, (⟨bs.toArray⟩ : ByteArray)[k]'h = c := fun h => by
                have := (List.getElem?_eq_some_iff.1 hc).2
                exact this
              have htk : bs.take (k + 1) = bs.take k ++ [c] := by rw [List.take_add_one, hc]; rfl
              have hsn := decVal_snoc (bs.take k) c
              rw [← htk] at hsn
              have Hsn := Lib.hid hsn
              have Hc := Lib.hid hc
              have Htk := Lib.hid htk
              have Hdl := Lib.hid (show (digs (decVal (bs.take k))).length ≤ 4000 from dec_digs Hd.out (by rw [List.length_take]; omega))
              have hu0 := c.toNat_lt
              obtain ⟨u, hu⟩ : ∃ u, c.toNat = u := ⟨_, rfl⟩
              have hidn : ∀ h, ((⟨bs.toArray⟩ : ByteArray)[k]'h).toNat = u := fun h => by rw [hidx h, hu]
              rw [hu] at hu0
              have Hu := Lib.hid hu
              have HL := Lib.hid hL
              clear hidx htk hsn hc hu hL
              by_cases hd : 48 ≤ u ∧ u ≤ 57
              · obtain ⟨hd1, hd2⟩ := hd
                obtain ⟨dg, hdg⟩ : ∃ dg, u - 48 = dg := ⟨_, rfl⟩
                have EW : IntKind.u32.wrap (IntKind.u8.wrap ((u : Int) - 48)) = (dg : Int) := by
                  have e1 : IntKind.u8.wrap ((u : Int) - 48) = (dg : Int) := by simp [IntKind.wrap, IntKind.bits, IntKind.signed]; omega
                  rw [e1]
                  simp [IntKind.wrap, IntKind.bits, IntKind.signed]; omega
                have Hlt := Lib.hid (show dg < BB by rw [BB_eq]; omega)
                have Hdg := Lib.hid hdg
                clear hdg
                go_wp2_with fail
                refine wp_region_tree (.read 0 (.read 3 (.read 4 (.read 5 (.read 6 (.read 7 (.two 1 (.two 2 (.one 8 (.one 9 (.read 10 .stop))) 8 (.one 2 (.one 9 (.read 10 .stop)))) 8 (.one 1 (.one 2 (.one 9 (.read 10 .stop)))))))))) ) (by kernel_rfl) (by kernel_rfl) rfl (by kernel_rfl) (fun _ _ d _ _ h => by cases d <;> exact h) ?_
                have g0 : Gr wr wr.drew := (Gr.refl _).drew
                have hv0 := Lib.hid (Hv.out.grow g0)
                repeat (refine wpT_readB (v := ?_) g0 rfl rfl (fun w' hg => ?_) (fun K hK => ?_); rotate_left; (go_simp; rfl); go_simp; refine hK _ _ ?_; clear hK K)
                generalize wr.drew = W at g0 hv0 ⊢
                refine wpT_two ?_ ?_
                · have hg0 := g0
                  refine wpT_val (v := ?_) (w' := ?_) rfl rfl ?_ ?_ (fun K hK => ?_)
                  rotate_left 2
                  · go_simp; first | rfl | (constructor <;> rfl)
                  · exact (Gr.refl _).alloc _
                  go_simp
                  refine hK _ _ ?_
                  clear hK K
                  have H10 := Lib.hid (NatL.one W 10 10 rfl (by rw [BB_eq]; decide) 64)
                  have hgn : Gr W (W.alloc (.cells #[.int .u32 (10)] 64)) := (Gr.refl _).alloc _
                  have hv0 := Lib.hid (hv0.out.grow hgn)
                  have hg1 := hg0.trans hgn
                  clear hgn hg0
                  have hg0 := hg1
                  clear hg1
                  generalize W.alloc _ = W1 at hv0 H10 hg0 ⊢
                  refine wpT_two ?_ ?_
                  · refine wpT_fn (args := ?_) rfl rfl rfl rfl rfl rfl (by kernel_rfl) (by kernel_rfl) ?_ (fun K hK => ?_)
                    rotate_left
                    · go_simp; rfl
                    refine (ref_Mul _ _ _ (digs (decVal (bs.take k))) [10] hv0.out H10.out (Nat.le_trans Hdl.out (by decide)) (by decide)).mono ?_
                    rintro _ w2 ⟨rm, rfl, hgn, hm⟩
                    rw [nval_digs, show nval [10] = 10 by simp [nval]] at hm
                    have HM := Lib.hid hm
                    clear hm
                    refine ⟨_, rfl, hgn, ?_⟩
                    go_simp
                    refine hK _ _ ?_
                    clear hK K
                    have hg1 := hg0.trans hgn
                    clear hgn hg0
                    have hg0 := hg1
                    clear hg1
                    refine wpT_val (v := ?_) (w' := ?_) rfl rfl ?_ ?_ (fun K hK => ?_)
                    rotate_left 2
                    · go_simp; first | rfl | (constructor <;> rfl)
                    · exact (Gr.refl _).alloc _
                    go_simp
                    refine hK _ _ ?_
                    clear hK K
                    have HDD := Lib.hid (NatL.one w2 (dg : Int) dg rfl Hlt.out 64)
                    have hgn : Gr w2 (w2.alloc (.cells #[.int .u32 ((dg : Int))] 64)) := (Gr.refl _).alloc _
                    have HM := Lib.hid (HM.out.grow hgn)
                    have hg1 := hg0.trans hgn
                    clear hgn hg0
                    have hg0 := hg1
                    clear hg1
                    generalize w2.alloc _ = W3 at HM HDD hg0 ⊢
                    refine wpT_fn (args := ?_) rfl rfl rfl rfl rfl rfl (by kernel_rfl) (by kernel_rfl) ?_ (fun K hK => ?_)
                    rotate_left
                    · go_simp; rfl
                    refine (ref_Add _ _ _ _ [dg] HM.out HDD.out (Nat.le_trans (digs_mul_len Hdl.out (digs_length_le (k := 1) (by rw [BB_eq]; decide))) (by decide)) (by simp)).mono ?_
                    rintro _ w9 ⟨ra, rfl, hgn, ha⟩
                    rw [nval_digs, show nval [dg] = dg by simp [nval]] at ha
                    refine ⟨_, rfl, hgn, ?_⟩
                    go_simp
                    refine hK _ _ ?_
                    clear hK K
                    have hg9 := hg0.trans hgn
                    repeat (refine wpT_readB (v := ?_) (Gr.refl w9) rfl rfl (fun w' hg => ?_) (fun K hK => ?_); rotate_left; (go_simp; rfl); go_simp; refine hK _ _ ?_; clear hK K)
                    refine wpT_stop ?_
                    go_wp2_with fail
                    refine ⟨⟨k + 1, by rw [HL.out]; omega, by go_num, ?_, ?_, Hg.out.trans hg9⟩, by have hLL := HL.out; simp [RowKit.intOf]; omega⟩
                    · rw [Htk.out, List.all_append, Hd.out]; simp [isDig, Hu.out, hd1, hd2]
                    · rw [Hsn.out, Hu.out, Hdg.out, Nat.mul_comm]; exact ha
                  · refine wpT_val (v := ?_) (w' := ?_) rfl rfl ?_ ?_ (fun K hK => ?_)
                    rotate_left 2
                    · go_simp; first | rfl | (constructor <;> rfl)
                    · exact (Gr.refl _).alloc _
                    go_simp
                    refine hK _ _ ?_
                    clear hK K
                    have HDD := Lib.hid (NatL.one W1 (dg : Int) dg rfl Hlt.out 64)
                    have hgn : Gr W1 (W1.alloc (.cells #[.int .u32 ((dg : Int))] 64)) := (Gr.refl _).alloc _
                    have hv0 := Lib.hid (hv0.out.grow hgn)
                    have H10 := Lib.hid (H10.out.grow hgn)
                    have hg1 := hg0.trans hgn
                    clear hgn hg0
                    have hg0 := hg1
                    clear hg1
                    generalize W1.alloc _ = W2 at hv0 H10 HDD hg0 ⊢
                    refine wpT_fn (args := ?_) rfl rfl rfl rfl rfl rfl (by kernel_rfl) (by kernel_rfl) ?_ (fun K hK => ?_)
                    rotate_left
                    · go_simp; rfl
                    refine (ref_Mul _ _ _ (digs (decVal (bs.take k))) [10] hv0.out H10.out (Nat.le_trans Hdl.out (by decide)) (by decide)).mono ?_
                    rintro _ w3 ⟨rm, rfl, hgn, hm⟩
                    rw [nval_digs, show nval [10] = 10 by simp [nval]] at hm
                    have HM := Lib.hid hm
                    clear hm
                    refine ⟨_, rfl, hgn, ?_⟩
                    go_simp
                    refine hK _ _ ?_
                    clear hK K
                    have HDD := Lib.hid (HDD.out.grow hgn)
                    have hg1 := hg0.trans hgn
                    clear hgn hg0
                    have hg0 := hg1
                    clear hg1
                    refine wpT_fn (args := ?_) rfl rfl rfl rfl rfl rfl (by kernel_rfl) (by kernel_rfl) ?_ (fun K hK => ?_)
                    rotate_left
                    · go_simp; rfl
                    refine (ref_Add _ _ _ _ [dg] HM.out HDD.out (Nat.le_trans (digs_mul_len Hdl.out (digs_length_le (k := 1) (by rw [BB_eq]; decide))) (by decide)) (by simp)).mono ?_
                    rintro _ w9 ⟨ra, rfl, hgn, ha⟩
                    rw [nval_digs, show nval [dg] = dg by simp [nval]] at ha
                    refine ⟨_, rfl, hgn, ?_⟩
                    go_simp
                    refine hK _ _ ?_
                    clear hK K
                    have hg9 := hg0.trans hgn
                    repeat (refine wpT_readB (v := ?_) (Gr.refl w9) rfl rfl (fun w' hg => ?_) (fun K hK => ?_); rotate_left; (go_simp; rfl); go_simp; refine hK _ _ ?_; clear hK K)
                    refine wpT_stop ?_
                    go_wp2_with fail
                    refine ⟨⟨k + 1, by rw [HL.out]; omega, by go_num, ?_, ?_, Hg.out.trans hg9⟩, by have hLL := HL.out; simp [RowKit.intOf]; omega⟩
                    · rw [Htk.out, List.all_append, Hd.out]; simp [isDig, Hu.out, hd1, hd2]
                    · rw [Hsn.out, Hu.out, Hdg.out, Nat.mul_comm]; exact ha
                · have hg0 := g0
                  refine wpT_val (v := ?_) (w' := ?_) rfl rfl ?_ ?_ (fun K hK => ?_)
                  rotate_left 2
                  · go_simp; first | rfl | (constructor <;> rfl)
                  · exact (Gr.refl _).alloc _
                  go_simp
                  refine hK _ _ ?_
                  clear hK K
                  have HDD := Lib.hid (NatL.one W (dg : Int) dg rfl Hlt.out 64)
                  have hgn : Gr W (W.alloc (.cells #[.int .u32 ((dg : Int))] 64)) := (Gr.refl _).alloc _
                  have hv0 := Lib.hid (hv0.out.grow hgn)
                  have hg1 := hg0.trans hgn
                  clear hgn hg0
                  have hg0 := hg1
                  clear hg1
                  generalize W.alloc _ = W1 at hv0 HDD hg0 ⊢
                  refine wpT_val (v := ?_) (w' := ?_) rfl rfl ?_ ?_ (fun K hK => ?_)
                  rotate_left 2
                  · go_simp; first | rfl | (constructor <;> rfl)
                  · exact (Gr.refl _).alloc _
                  go_simp
                  refine hK _ _ ?_
                  clear hK K
                  have H10 := Lib.hid (NatL.one W1 10 10 rfl (by rw [BB_eq]; decide) 64)
                  have hgn : Gr W1 (W1.alloc (.cells #[.int .u32 (10)] 64)) := (Gr.refl _).alloc _
                  have hv0 := Lib.hid (hv0.out.grow hgn)
                  have HDD := Lib.hid (HDD.out.grow hgn)
                  have hg1 := hg0.trans hgn
                  clear hgn hg0
                  have hg0 := hg1
                  clear hg1
                  generalize W1.alloc _ = W2 at hv0 HDD H10 hg0 ⊢
                  refine wpT_fn (args := ?_) rfl rfl rfl rfl rfl rfl (by kernel_rfl) (by kernel_rfl) ?_ (fun K hK => ?_)
                  rotate_left
                  · go_simp; rfl
                  refine (ref_Mul _ _ _ (digs (decVal (bs.take k))) [10] hv0.out H10.out (Nat.le_trans Hdl.out (by decide)) (by decide)).mono ?_
                  rintro _ w3 ⟨rm, rfl, hgn, hm⟩
                  rw [nval_digs, show nval [10] = 10 by simp [nval]] at hm
                  have HM := Lib.hid hm
                  clear hm
                  refine ⟨_, rfl, hgn, ?_⟩
                  go_simp
                  refine hK _ _ ?_
                  clear hK K
                  have HDD := Lib.hid (HDD.out.grow hgn)
                  have hg1 := hg0.trans hgn
                  clear hgn hg0
                  have hg0 := hg1
                  clear hg1
                  refine wpT_fn (args := ?_) rfl rfl rfl rfl rfl rfl (by kernel_rfl) (by kernel_rfl) ?_ (fun K hK => ?_)
                  rotate_left
                  · go_simp; rfl
                  refine (ref_Add _ _ _ _ [dg] HM.out HDD.out (Nat.le_trans (digs_mul_len Hdl.out (digs_length_le (k := 1) (by rw [BB_eq]; decide))) (by decide)) (by simp)).mono ?_
                  rintro _ w9 ⟨ra, rfl, hgn, ha⟩
                  rw [nval_digs, show nval [dg] = dg by simp [nval]] at ha
                  refine ⟨_, rfl, hgn, ?_⟩
                  go_simp
                  refine hK _ _ ?_
                  clear hK K
                  have hg9 := hg0.trans hgn
                  repeat (refine wpT_readB (v := ?_) (Gr.refl w9) rfl rfl (fun w' hg => ?_) (fun K hK => ?_); rotate_left; (go_simp; rfl); go_simp; refine hK _ _ ?_; clear hK K)
                  refine wpT_stop ?_
                  go_wp2_with fail
                  refine ⟨⟨k + 1, by rw [HL.out]; omega, by go_num, ?_, ?_, Hg.out.trans hg9⟩, by have hLL := HL.out; simp [RowKit.intOf]; omega⟩
                  · rw [Htk.out, List.all_append, Hd.out]; simp [isDig, Hu.out, hd1, hd2]
                  · rw [Hsn.out, Hu.out, Hdg.out, Nat.mul_comm]; exact ha
              · have hb : bs.all isDig = false := by
                  have hm : c ∈ bs := List.mem_of_getElem? Hc.out
                  exact List.all_eq_false.2 ⟨c, hm, by simp only [isDig, Hu.out]; simpa using hd⟩
                have Hb := Lib.hid (Hbad.out hb)
                clear hb
                go_wp2_with fail
                all_goals
                  go_ret2
                  exact ⟨_, rfl, Hg.out, ParseRes.bad Hb.out⟩
            · obtain rfl : k = L := by omega
              have HL := Lib.hid hL
              clear hL
              go_wp2_with fail
              go_ret2
              have hd := Hd.out
              have hv := Hv.out
              rw [List.take_of_length_le (by rw [HL.out]; exact Nat.le_refl _)] at hd hv
              exact ⟨_, rfl, Hg.out, ParseRes.good (Hok.out hd) hv⟩

        · have hc : ¬ c = 48 := fun e => hcs (hz2 e)
          have hc2 : ¬ c.toNat = 48 := fun e => hc (UInt8.toNat_inj.1 (by rw [e]; rfl))
          have hcs2 : 0 < cs.length := List.length_pos_iff.2 hcs
          have hc3 : ((c.toNat : Int) == 48) = false := by simp; omega
          clear hz2
          go_enter Tryz.func93, Tryz.ntmps93
          go_wp2_with fail
          have hstr : (⟨(c :: cs).toArray⟩ : ByteArray) = ⟨bs.toArray⟩ := by rw [← Hx.out]
          rw [hstr]
          clear e0 h4 hbs hc hc2 hcs2 hcs hstr hc3
          go_loopw [4, 5] (fun vo i w1 => ∃ k : Nat, k ≤ bs.length ∧ i = .int .i64 k ∧ (bs.take k).all isDig = true ∧ NatL w1 vo (digs (decVal (bs.take k))) ∧ Gr w w1) (fun _ i _ => bs.length - (RowKit.intOf i).toNat)
          case atStart => exact ⟨0, Nat.zero_le _, rfl, rfl, by rw [show decVal (bs.take 0) = 0 from rfl, digs_eq_nil.2 rfl]; exact NatL.empty _ _ _ _ rfl, (Gr.refl w).alloc _⟩
          case round =>
            obtain ⟨k, hk, rfl, hd, hvo, hg⟩ := hrel
            have Hd := Lib.hid hd
            have Hv := Lib.hid hvo
            have Hg := Lib.hid hg
            clear hd hvo hg
            obtain ⟨L, hL⟩ : ∃ L, bs.length = L := ⟨_, rfl⟩
            have hsz : (⟨bs.toArray⟩ : ByteArray).size = L := hL
            have hL4 : L ≤ 4000 := by rw [← hL]; exact Hl.out
            rw [hL] at hk
            by_cases hlt : k < L
            · obtain ⟨c, hc⟩ : ∃ c, bs[k]? = some c := ⟨_, List.getElem?_eq_getElem (by rw [hL]; omega)⟩
              have hidx : ∀ h, (⟨bs.toArray⟩ : ByteArray)[k]'h = c := fun h => by
                have := (List.getElem?_eq_some_iff.1 hc).2
                exact this
              have htk : bs.take (k + 1) = bs.take k ++ [c] := by rw [List.take_add_one, hc]; rfl
              have hsn := decVal_snoc (bs.take k) c
              rw [← htk] at hsn
              have Hsn := Lib.hid hsn
              have Hc := Lib.hid hc
              have Htk := Lib.hid htk
              have Hdl := Lib.hid (show (digs (decVal (bs.take k))).length ≤ 4000 from dec_digs Hd.out (by rw [List.length_take]; omega))
              have hu0 := c.toNat_lt
              obtain ⟨u, hu⟩ : ∃ u, c.toNat = u := ⟨_, rfl⟩
              have hidn : ∀ h, ((⟨bs.toArray⟩ : ByteArray)[k]'h).toNat = u := fun h => by rw [hidx h, hu]
              rw [hu] at hu0
              have Hu := Lib.hid hu
              have HL := Lib.hid hL
              clear hidx htk hsn hc hu hL
              by_cases hd : 48 ≤ u ∧ u ≤ 57
              · obtain ⟨hd1, hd2⟩ := hd
                obtain ⟨dg, hdg⟩ : ∃ dg, u - 48 = dg := ⟨_, rfl⟩
                have EW : IntKind.u32.wrap (IntKind.u8.wrap ((u : Int) - 48)) = (dg : Int) := by
                  have e1 : IntKind.u8.wrap ((u : Int) - 48) = (dg : Int) := by simp [IntKind.wrap, IntKind.bits, IntKind.signed]; omega
                  rw [e1]
                  simp [IntKind.wrap, IntKind.bits, IntKind.signed]; omega
                have Hlt := Lib.hid (show dg < BB by rw [BB_eq]; omega)
                have Hdg := Lib.hid hdg
                clear hdg
                go_wp2_with fail
                refine wp_region_tree (.read 0 (.read 3 (.read 4 (.read 5 (.read 6 (.read 7 (.two 1 (.two 2 (.one 8 (.one 9 (.read 10 .stop))) 8 (.one 2 (.one 9 (.read 10 .stop)))) 8 (.one 1 (.one 2 (.one 9 (.read 10 .stop)))))))))) ) (by kernel_rfl) (by kernel_rfl) rfl (by kernel_rfl) (fun _ _ d _ _ h => by cases d <;> exact h) ?_
                have g0 : Gr wr wr.drew := (Gr.refl _).drew
                have hv0 := Lib.hid (Hv.out.grow g0)
                repeat (refine wpT_readB (v := ?_) g0 rfl rfl (fun w' hg => ?_) (fun K hK => ?_); rotate_left; (go_simp; rfl); go_simp; refine hK _ _ ?_; clear hK K)
                generalize wr.drew = W at g0 hv0 ⊢
                refine wpT_two ?_ ?_
                · have hg0 := g0
                  refine wpT_val (v := ?_) (w' := ?_) rfl rfl ?_ ?_ (fun K hK => ?_)
                  rotate_left 2
                  · go_simp; first | rfl | (constructor <;> rfl)
                  · exact (Gr.refl _).alloc _
                  go_simp
                  refine hK _ _ ?_
                  clear hK K
                  have H10 := Lib.hid (NatL.one W 10 10 rfl (by rw [BB_eq]; decide) 64)
                  have hgn : Gr W (W.alloc (.cells #[.int .u32 (10)] 64)) := (Gr.refl _).alloc _
                  have hv0 := Lib.hid (hv0.out.grow hgn)
                  have hg1 := hg0.trans hgn
                  clear hgn hg0
                  have hg0 := hg1
                  clear hg1
                  generalize W.alloc _ = W1 at hv0 H10 hg0 ⊢
                  refine wpT_two ?_ ?_
                  · refine wpT_fn (args := ?_) rfl rfl rfl rfl rfl rfl (by kernel_rfl) (by kernel_rfl) ?_ (fun K hK => ?_)
                    rotate_left
                    · go_simp; rfl
                    refine (ref_Mul _ _ _ (digs (decVal (bs.take k))) [10] hv0.out H10.out (Nat.le_trans Hdl.out (by decide)) (by decide)).mono ?_
                    rintro _ w2 ⟨rm, rfl, hgn, hm⟩
                    rw [nval_digs, show nval [10] = 10 by simp [nval]] at hm
                    have HM := Lib.hid hm
                    clear hm
                    refine ⟨_, rfl, hgn, ?_⟩
                    go_simp
                    refine hK _ _ ?_
                    clear hK K
                    have hg1 := hg0.trans hgn
                    clear hgn hg0
                    have hg0 := hg1
                    clear hg1
                    refine wpT_val (v := ?_) (w' := ?_) rfl rfl ?_ ?_ (fun K hK => ?_)
                    rotate_left 2
                    · go_simp; first | rfl | (constructor <;> rfl)
                    · exact (Gr.refl _).alloc _
                    go_simp
                    refine hK _ _ ?_
                    clear hK K
                    have HDD := Lib.hid (NatL.one w2 (dg : Int) dg rfl Hlt.out 64)
                    have hgn : Gr w2 (w2.alloc (.cells #[.int .u32 ((dg : Int))] 64)) := (Gr.refl _).alloc _
                    have HM := Lib.hid (HM.out.grow hgn)
                    have hg1 := hg0.trans hgn
                    clear hgn hg0
                    have hg0 := hg1
                    clear hg1
                    generalize w2.alloc _ = W3 at HM HDD hg0 ⊢
                    refine wpT_fn (args := ?_) rfl rfl rfl rfl rfl rfl (by kernel_rfl) (by kernel_rfl) ?_ (fun K hK => ?_)
                    rotate_left
                    · go_simp; rfl
                    refine (ref_Add _ _ _ _ [dg] HM.out HDD.out (Nat.le_trans (digs_mul_len Hdl.out (digs_length_le (k := 1) (by rw [BB_eq]; decide))) (by decide)) (by simp)).mono ?_
                    rintro _ w9 ⟨ra, rfl, hgn, ha⟩
                    rw [nval_digs, show nval [dg] = dg by simp [nval]] at ha
                    refine ⟨_, rfl, hgn, ?_⟩
                    go_simp
                    refine hK _ _ ?_
                    clear hK K
                    have hg9 := hg0.trans hgn
                    repeat (refine wpT_readB (v := ?_) (Gr.refl w9) rfl rfl (fun w' hg => ?_) (fun K hK => ?_); rotate_left; (go_simp; rfl); go_simp; refine hK _ _ ?_; clear hK K)
                    refine wpT_stop ?_
                    go_wp2_with fail
                    refine ⟨⟨k + 1, by rw [HL.out]; omega, by go_num, ?_, ?_, Hg.out.trans hg9⟩, by have hLL := HL.out; simp [RowKit.intOf]; omega⟩
                    · rw [Htk.out, List.all_append, Hd.out]; simp [isDig, Hu.out, hd1, hd2]
                    · rw [Hsn.out, Hu.out, Hdg.out, Nat.mul_comm]; exact ha
                  · refine wpT_val (v := ?_) (w' := ?_) rfl rfl ?_ ?_ (fun K hK => ?_)
                    rotate_left 2
                    · go_simp; first | rfl | (constructor <;> rfl)
                    · exact (Gr.refl _).alloc _
                    go_simp
                    refine hK _ _ ?_
                    clear hK K
                    have HDD := Lib.hid (NatL.one W1 (dg : Int) dg rfl Hlt.out 64)
                    have hgn : Gr W1 (W1.alloc (.cells #[.int .u32 ((dg : Int))] 64)) := (Gr.refl _).alloc _
                    have hv0 := Lib.hid (hv0.out.grow hgn)
                    have H10 := Lib.hid (H10.out.grow hgn)
                    have hg1 := hg0.trans hgn
                    clear hgn hg0
                    have hg0 := hg1
                    clear hg1
                    generalize W1.alloc _ = W2 at hv0 H10 HDD hg0 ⊢
                    refine wpT_fn (args := ?_) rfl rfl rfl rfl rfl rfl (by kernel_rfl) (by kernel_rfl) ?_ (fun K hK => ?_)
                    rotate_left
                    · go_simp; rfl
                    refine (ref_Mul _ _ _ (digs (decVal (bs.take k))) [10] hv0.out H10.out (Nat.le_trans Hdl.out (by decide)) (by decide)).mono ?_
                    rintro _ w3 ⟨rm, rfl, hgn, hm⟩
                    rw [nval_digs, show nval [10] = 10 by simp [nval]] at hm
                    have HM := Lib.hid hm
                    clear hm
                    refine ⟨_, rfl, hgn, ?_⟩
                    go_simp
                    refine hK _ _ ?_
                    clear hK K
                    have HDD := Lib.hid (HDD.out.grow hgn)
                    have hg1 := hg0.trans hgn
                    clear hgn hg0
                    have hg0 := hg1
                    clear hg1
                    refine wpT_fn (args := ?_) rfl rfl rfl rfl rfl rfl (by kernel_rfl) (by kernel_rfl) ?_ (fun K hK => ?_)
                    rotate_left
                    · go_simp; rfl
                    refine (ref_Add _ _ _ _ [dg] HM.out HDD.out (Nat.le_trans (digs_mul_len Hdl.out (digs_length_le (k := 1) (by rw [BB_eq]; decide))) (by decide)) (by simp)).mono ?_
                    rintro _ w9 ⟨ra, rfl, hgn, ha⟩
                    rw [nval_digs, show nval [dg] = dg by simp [nval]] at ha
                    refine ⟨_, rfl, hgn, ?_⟩
                    go_simp
                    refine hK _ _ ?_
                    clear hK K
                    have hg9 := hg0.trans hgn
                    repeat (refine wpT_readB (v := ?_) (Gr.refl w9) rfl rfl (fun w' hg => ?_) (fun K hK => ?_); rotate_left; (go_simp; rfl); go_simp; refine hK _ _ ?_; clear hK K)
                    refine wpT_stop ?_
                    go_wp2_with fail
                    refine ⟨⟨k + 1, by rw [HL.out]; omega, by go_num, ?_, ?_, Hg.out.trans hg9⟩, by have hLL := HL.out; simp [RowKit.intOf]; omega⟩
                    · rw [Htk.out, List.all_append, Hd.out]; simp [isDig, Hu.out, hd1, hd2]
                    · rw [Hsn.out, Hu.out, Hdg.out, Nat.mul_comm]; exact ha
                · have hg0 := g0
                  refine wpT_val (v := ?_) (w' := ?_) rfl rfl ?_ ?_ (fun K hK => ?_)
                  rotate_left 2
                  · go_simp; first | rfl | (constructor <;> rfl)
                  · exact (Gr.refl _).alloc _
                  go_simp
                  refine hK _ _ ?_
                  clear hK K
                  have HDD := Lib.hid (NatL.one W (dg : Int) dg rfl Hlt.out 64)
                  have hgn : Gr W (W.alloc (.cells #[.int .u32 ((dg : Int))] 64)) := (Gr.refl _).alloc _
                  have hv0 := Lib.hid (hv0.out.grow hgn)
                  have hg1 := hg0.trans hgn
                  clear hgn hg0
                  have hg0 := hg1
                  clear hg1
                  generalize W.alloc _ = W1 at hv0 HDD hg0 ⊢
                  refine wpT_val (v := ?_) (w' := ?_) rfl rfl ?_ ?_ (fun K hK => ?_)
                  rotate_left 2
                  · go_simp; first | rfl | (constructor <;> rfl)
                  · exact (Gr.refl _).alloc _
                  go_simp
                  refine hK _ _ ?_
                  clear hK K
                  have H10 := Lib.hid (NatL.one W1 10 10 rfl (by rw [BB_eq]; decide) 64)
                  have hgn : Gr W1 (W1.alloc (.cells #[.int .u32 (10)] 64)) := (Gr.refl _).alloc _
                  have hv0 := Lib.hid (hv0.out.grow hgn)
                  have HDD := Lib.hid (HDD.out.grow hgn)
                  have hg1 := hg0.trans hgn
                  clear hgn hg0
                  have hg0 := hg1
                  clear hg1
                  generalize W1.alloc _ = W2 at hv0 HDD H10 hg0 ⊢
                  refine wpT_fn (args := ?_) rfl rfl rfl rfl rfl rfl (by kernel_rfl) (by kernel_rfl) ?_ (fun K hK => ?_)
                  rotate_left
                  · go_simp; rfl
                  refine (ref_Mul _ _ _ (digs (decVal (bs.take k))) [10] hv0.out H10.out (Nat.le_trans Hdl.out (by decide)) (by decide)).mono ?_
                  rintro _ w3 ⟨rm, rfl, hgn, hm⟩
                  rw [nval_digs, show nval [10] = 10 by simp [nval]] at hm
                  have HM := Lib.hid hm
                  clear hm
                  refine ⟨_, rfl, hgn, ?_⟩
                  go_simp
                  refine hK _ _ ?_
                  clear hK K
                  have HDD := Lib.hid (HDD.out.grow hgn)
                  have hg1 := hg0.trans hgn
                  clear hgn hg0
                  have hg0 := hg1
                  clear hg1
                  refine wpT_fn (args := ?_) rfl rfl rfl rfl rfl rfl (by kernel_rfl) (by kernel_rfl) ?_ (fun K hK => ?_)
                  rotate_left
                  · go_simp; rfl
                  refine (ref_Add _ _ _ _ [dg] HM.out HDD.out (Nat.le_trans (digs_mul_len Hdl.out (digs_length_le (k := 1) (by rw [BB_eq]; decide))) (by decide)) (by simp)).mono ?_
                  rintro _ w9 ⟨ra, rfl, hgn, ha⟩
                  rw [nval_digs, show nval [dg] = dg by simp [nval]] at ha
                  refine ⟨_, rfl, hgn, ?_⟩
                  go_simp
                  refine hK _ _ ?_
                  clear hK K
                  have hg9 := hg0.trans hgn
                  repeat (refine wpT_readB (v := ?_) (Gr.refl w9) rfl rfl (fun w' hg => ?_) (fun K hK => ?_); rotate_left; (go_simp; rfl); go_simp; refine hK _ _ ?_; clear hK K)
                  refine wpT_stop ?_
                  go_wp2_with fail
                  refine ⟨⟨k + 1, by rw [HL.out]; omega, by go_num, ?_, ?_, Hg.out.trans hg9⟩, by have hLL := HL.out; simp [RowKit.intOf]; omega⟩
                  · rw [Htk.out, List.all_append, Hd.out]; simp [isDig, Hu.out, hd1, hd2]
                  · rw [Hsn.out, Hu.out, Hdg.out, Nat.mul_comm]; exact ha
              · have hb : bs.all isDig = false := by
                  have hm : c ∈ bs := List.mem_of_getElem? Hc.out
                  exact List.all_eq_false.2 ⟨c, hm, by simp only [isDig, Hu.out]; simpa using hd⟩
                have Hb := Lib.hid (Hbad.out hb)
                clear hb
                go_wp2_with fail
                all_goals
                  go_ret2
                  exact ⟨_, rfl, Hg.out, ParseRes.bad Hb.out⟩
            · obtain rfl : k = L := by omega
              have HL := Lib.hid hL
              clear hL
              go_wp2_with fail
              go_ret2
              have hd := Hd.out
              have hv := Hv.out
              rw [List.take_of_length_le (by rw [HL.out]; exact Nat.le_refl _)] at hd hv
              exact ⟨_, rfl, Hg.out, ParseRes.good (Hok.out hd) hv⟩

    · go_enter Tryz.func93, Tryz.ntmps93
      go_wp2_with fail
      go_ret2
      exact ⟨_, rfl, Gr.refl _, by rw [← Hx.out]; exact ParseRes.bad (by simp [okText]; omega)⟩
theorem ref_Parse (w : World) (bs : List UInt8) (hbs : bs.length ≤ 140737488355328) :
    Calls Tryz.prog 93 #[.string ⟨bs.toArray⟩] w (Ret w fun r w' => ParseRes bs r w') := ref_Parse' w bs bs rfl hbs
end Go.Proofs.YtmcgkglmlfbijaaGreatDoor

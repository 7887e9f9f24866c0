/-
  exodusref14.Domains, Domain (by site); site.Link, exodusref14.Link.
-/
import Derived.Test.YtdekicijinmakaaGreatDoorIdx
namespace Go.Proofs.YtdekicijinmakaaGreatDoor
open Go.RowKit Go.Lib Lex
set_option linter.unusedVariables false
set_option linter.unusedSimpArgs false

theorem ref_Domains4 (w : World) (P : Ptrs) (M : Mdl) (hm : MdlAt w P M) : Calls Tryz.prog 64 #[.agg (mcells P M), .int .i64 4] w (Ret w fun r _ => r = .int .i64 (M.sites.length : Int)) := by
  have HM := Lib.hid hm
  have B := Cells.new w (mcells P M) 29
  clear hm
  have m0 := mc0 B.2 _ (Gr.refl _)
  have m1 := mc1 B.2 _ (Gr.refl _)
  have m2 := mc2 B.2 _ (Gr.refl _)
  have m3 := mc3 B.2 _ (Gr.refl _)
  have m4 := mc4 B.2 _ (Gr.refl _)
  have m5 := mc5 B.2 _ (Gr.refl _)
  have m6 := mc6 B.2 _ (Gr.refl _)
  have m7 := mc7 B.2 _ (Gr.refl _)
  have m8 := mc8 B.2 _ (Gr.refl _)
  have m9 := mc9 B.2 _ (Gr.refl _)
  have m10 := mc10 B.2 _ (Gr.refl _)
  unfold mcells at B m0 m1 m2 m3 m4 m5 m6 m7 m8 m9 m10 ⊢
  go_enter Tryz.func64, Tryz.ntmps64
  go_wp2_with fail
  clear m0 m1 m2 m3 m4 m5 m6 m7 m8 m9 m10
  generalize w.heap.size = bm at B ⊢
  generalize w.alloc _ = W at B ⊢
  obtain ⟨g0, tm⟩ := B
  have TM := Lib.hid (show Cells W bm (mcells P M) from tm)
  have G := Lib.hid g0
  have HM := Lib.hid (HM.out.grow g0)
  clear g0 tm
  have m0 := mc0 TM.out _ (Gr.refl _)
  have m1 := mc1 TM.out _ (Gr.refl _)
  have m2 := mc2 TM.out _ (Gr.refl _)
  have m3 := mc3 TM.out _ (Gr.refl _)
  have m4 := mc4 TM.out _ (Gr.refl _)
  have m5 := mc5 TM.out _ (Gr.refl _)
  have m6 := mc6 TM.out _ (Gr.refl _)
  have m7 := mc7 TM.out _ (Gr.refl _)
  have m8 := mc8 TM.out _ (Gr.refl _)
  have m9 := mc9 TM.out _ (Gr.refl _)
  have m10 := mc10 TM.out _ (Gr.refl _)
  try rw [Exit.noGoto_ret]
  go_ret
  exact ⟨_, rfl, G.out, rfl⟩
set_option maxRecDepth 100000 in
set_option maxHeartbeats 1600000 in
theorem ref_Domain4 (w : World) (P : Ptrs) (M : Mdl) (n : Int) (hm : MdlAt w P M) (hf : Few M) : Calls Tryz.prog 31 #[.agg (mcells P M), .int .i64 4, .int .i64 n] w (Ret w fun r _ => r = .int .i64 (domainM M 4 n)) := by
  have HF := Lib.hid hf
  clear hf
  have HM := Lib.hid hm
  have B := Cells.new w (mcells P M) 29
  clear hm
  have m0 := mc0 B.2 _ (Gr.refl _)
  have m1 := mc1 B.2 _ (Gr.refl _)
  have m2 := mc2 B.2 _ (Gr.refl _)
  have m3 := mc3 B.2 _ (Gr.refl _)
  have m4 := mc4 B.2 _ (Gr.refl _)
  have m5 := mc5 B.2 _ (Gr.refl _)
  have m6 := mc6 B.2 _ (Gr.refl _)
  have m7 := mc7 B.2 _ (Gr.refl _)
  have m8 := mc8 B.2 _ (Gr.refl _)
  have m9 := mc9 B.2 _ (Gr.refl _)
  have m10 := mc10 B.2 _ (Gr.refl _)
  unfold mcells at B m0 m1 m2 m3 m4 m5 m6 m7 m8 m9 m10 ⊢
  go_enter Tryz.func31, Tryz.ntmps31
  go_wp2_with fail
  clear m0 m1 m2 m3 m4 m5 m6 m7 m8 m9 m10
  generalize w.heap.size = bm at B ⊢
  generalize w.alloc _ = W at B ⊢
  obtain ⟨g0, tm⟩ := B
  have TM := Lib.hid (show Cells W bm (mcells P M) from tm)
  have G := Lib.hid g0
  have HM := Lib.hid (HM.out.grow g0)
  clear g0 tm
  have m0 := mc0 TM.out _ (Gr.refl _)
  have m1 := mc1 TM.out _ (Gr.refl _)
  have m2 := mc2 TM.out _ (Gr.refl _)
  have m3 := mc3 TM.out _ (Gr.refl _)
  have m4 := mc4 TM.out _ (Gr.refl _)
  have m5 := mc5 TM.out _ (Gr.refl _)
  have m6 := mc6 TM.out _ (Gr.refl _)
  have m7 := mc7 TM.out _ (Gr.refl _)
  have m8 := mc8 TM.out _ (Gr.refl _)
  have m9 := mc9 TM.out _ (Gr.refl _)
  have m10 := mc10 TM.out _ (Gr.refl _)
  refine (ref_Exists _ _ _).mono ?_
  rintro _ _ ⟨⟨v1, rfl, h1⟩, rfl⟩
  rcases h1.cases with ⟨rfl, k1⟩ | ⟨rfl, k1⟩
  · obtain ⟨k, rfl⟩ : ∃ k : Nat, n = (k : Int) + 1 := ⟨(n - 1).toNat, by omega⟩
    have hlt : k < M.machs.length := by omega
    have hfew := HF.out.1
    obtain ⟨b1, o1, x, hp1, hx, hc1⟩ := mach_at HM.out.machs rfl hlt
    have hev := dom_eval (K := 4) hx
    have c1 := (hc1 _ (Gr.refl _)).2.1
    have hw1 : IntKind.i64.wrap ((k : Int) + 1 - 1) = (k : Int) := by rw [IntKind.wrap_i64]; omega
    have q3 := m3
    rw [hp1] at q3
    clear m3
    have hlt' : (k : Int) < (M.machs.length : Int) := by omega
    clear h1 k1 hx hc1
    go_wp2_with fail
    refine (ref_Exists _ _ _).mono ?_
    rintro _ _ ⟨⟨v2, rfl, h2⟩, rfl⟩
    rcases h2.cases with ⟨rfl, k2⟩ | ⟨rfl, k2⟩
    · obtain ⟨r, hr⟩ : ∃ r : Nat, x.rack = (r : Int) + 1 := ⟨(x.rack - 1).toNat, by omega⟩
      rw [hr] at k2 hev
      have hrl : r < M.racks.length := by omega
      obtain ⟨b2, o2, y, hp2, hy, hc2⟩ := rack_at HM.out.racks rfl hrl
      rw [rack_eval hy] at hev
      have HEV := Lib.hid (show domainM M 4 ((k : Int) + 1) = if 1 ≤ y.site ∧ y.site ≤ (M.sites.length : Int) then y.site else 0 from by rw [hev]; simp [domsM])
      have y1 := (hc2 _ (Gr.refl _)).2.1
      have hw2 : IntKind.i64.wrap ((r : Int) + 1 - 1) = (r : Int) := by rw [IntKind.wrap_i64]; omega
      have q2 := m2
      rw [hp2] at q2
      rw [hr]
      have hrl' : (r : Int) < (M.racks.length : Int) := by omega
      have q2' := m2
      clear h2 hev hy hc2 k2 m2 q2'
      go_wp2_with fail
      have hcall := ref_Domains4 W P M HM.out
      unfold mcells at hcall
      rw [hp1, hp2] at hcall
      refine hcall.mono ?_
      clear hcall
      rintro _ w5 ⟨_, rfl, g5, rfl⟩
      have G := Lib.hid (G.out.trans g5)
      clear m0 m1 m4 m5 m6 m7 m8 m9 m10 q3 q2 c1 y1 g5
      go_wp2_with fail
      refine (ref_Exists _ _ _).mono ?_
      rintro _ _ ⟨⟨v3, rfl, h3⟩, rfl⟩
      rcases h3.cases with ⟨rfl, k3⟩ | ⟨rfl, k3⟩
      · have H3 := Lib.hid k3
        clear k3 h3
        go_wp2_with fail
        try rw [Exit.noGoto_ret]
        go_ret
        exact ⟨_, rfl, G.out, by rw [HEV.out, if_pos H3.out]; rfl⟩
      · have H3 := Lib.hid k3
        clear k3 h3
        go_wp2_with fail
        try rw [Exit.noGoto_ret]
        go_ret
        exact ⟨_, rfl, G.out, by rw [HEV.out, if_neg H3.out]; rfl⟩
    · have HE := Lib.hid (show domainM M 4 ((k : Int) + 1) = 0 from by rw [hev, rack_none k2]; simp)
      clear h2 hev
      go_wp2_with fail
      try rw [Exit.noGoto_ret]
      go_ret
      exact ⟨_, rfl, G.out, by rw [HE.out]; rfl⟩
  · have HE := Lib.hid (show domainM M 4 n = 0 from by unfold domainM; rw [if_neg k1])
    go_wp2_with fail
    try rw [Exit.noGoto_ret]
    go_ret
    exact ⟨_, rfl, G.out, by rw [HE.out]; rfl⟩
theorem link_prd (w : World) (p q : Nat) (a b : Int) (hp : Cells w p #[.int .i64 a]) (hq : Cells w q #[.int .i64 b]) :
    PrdB w (.func (.func 143) #[] #[.pointer (some ⟨p, 0, none⟩), .pointer (some ⟨q, 0, none⟩)]) encLink (joins a b) := by
  refine ⟨_, _, rfl, enters_of Tryz.func143 (by kernel_rfl) rfl, fun w' g x => ?_⟩
  have HP := Lib.hid (hp.grow g)
  have HQ := Lib.hid (hq.grow g)
  clear hp hq g
  have B := Cells.new w' #[.int .i64 x.a, .int .i64 x.b, .int .i64 x.cap] 118
  have d0 := B.2.at 0 rfl
  have d1 := B.2.at 1 rfl
  have d2 := B.2.at 2 rfl
  have p0 := (HP.out.grow B.1).at 0 rfl
  have q0 := (HQ.out.grow B.1).at 0 rfl
  have G := Lib.hid B.1
  clear B
  show Calls _ _ #[.agg #[.int .i64 x.a, .int .i64 x.b, .int .i64 x.cap], .pointer (some ⟨p, 0, none⟩), .pointer (some ⟨q, 0, none⟩)] _ _
  unfold joins
  obtain ⟨t1, h1⟩ : ∃ t, (x.a == a) = t := ⟨_, rfl⟩
  obtain ⟨t2, h2⟩ : ∃ t, (x.b == b) = t := ⟨_, rfl⟩
  obtain ⟨t3, h3⟩ : ∃ t, (x.a == b) = t := ⟨_, rfl⟩
  obtain ⟨t4, h4⟩ : ∃ t, (x.b == a) = t := ⟨_, rfl⟩
  cases t1 <;> cases t2 <;> cases t3 <;> cases t4 <;>
  · go_enter Tryz.func143, Tryz.ntmps143
    go_wp2_with fail
    go_ret
    exact ⟨_, rfl, G.out, by rw [h1, h2, h3, h4]; rfl⟩
theorem site_Link (w : World) (P : Ptrs) (M : Mdl) (a b : Int) (hm : MdlAt w P M) (hf : Few M) : Calls Tryz.prog 92 #[.agg (mcells P M), .int .i64 a, .int .i64 b] w (Ret w fun r _ => r = .int .i64 (linkM M a b)) := by
  have HF := Lib.hid hf
  have HM := Lib.hid hm
  have B0 := Cells.new w (mcells P M) 29
  have B1 := Cells.new (w.alloc (.cells (mcells P M) 29)) #[.int .i64 a] 3
  have B2 := Cells.new ((w.alloc (.cells (mcells P M) 29)).alloc (.cells #[.int .i64 a] 3)) #[.int .i64 b] 3
  simp only [World.size_alloc] at B1 B2
  have m4 := mc4 B0.2 _ (B1.1.trans B2.1)
  have d1 := (B1.2.grow B2.1).at 0 rfl
  have d2 := B2.2.at 0 rfl
  have H := Lib.hid (show _ ∧ _ ∧ _ from ⟨(B0.1.trans B1.1).trans B2.1, B1.2.grow B2.1, B2.2⟩)
  clear hm hf B0 B1 B2
  unfold mcells at H m4 ⊢
  by_cases e : a = b
  · subst e
    go_enter Tryz.func92, Tryz.ntmps92
    go_wp2_with fail
    try rw [Exit.noGoto_ret]
    go_ret
    exact ⟨_, rfl, H.out.1, by unfold linkM; rw [if_pos rfl]; rfl⟩
  · have e0 : (a == b) = false := by simpa using e
    have E := Lib.hid e
    clear e
    go_enter Tryz.func92, Tryz.ntmps92
    go_wp2_with fail
    clear m4 d1 d2
    generalize w.heap.size + 1 + 1 = b2 at H ⊢
    generalize w.heap.size + 1 = b1 at H ⊢
    generalize ((w.alloc _).alloc _).alloc _ = W at H ⊢
    obtain ⟨g, t1, t2⟩ := H.out
    have hfew := HF.out.1
    refine (link_indexB W P.p4 M.links.length P.c4 M.links _ _ (HM.out.grow g).links rfl (by omega) (link_prd W b1 b2 a b t1 t2)).mono ?_
    rintro _ w2 ⟨_, rfl, g2, rfl⟩
    have hb := firstAt_ge (joins a b) M.links
    have hw : IntKind.i64.wrap (1 + firstAt (joins a b) M.links) = 1 + firstAt (joins a b) M.links := by rw [IntKind.wrap_i64]; omega
    have HR := Lib.hid (show linkM M a b = 1 + firstAt (joins a b) M.links from by unfold linkM; rw [if_neg E.out])
    have G := Lib.hid (g.trans g2)
    clear hb t1 t2 g g2
    go_wp2_with fail
    go_ret
    exact ⟨_, rfl, G.out, by rw [HR.out]; rfl⟩
set_option maxRecDepth 100000 in
set_option maxHeartbeats 1600000 in
theorem ref_Link (w : World) (P : Ptrs) (M : Mdl) (a b : Int) (hm : MdlAt w P M) (hf : Few M) : Calls Tryz.prog 93 #[.agg (mcells P M), .int .i64 a, .int .i64 b] w (Ret w fun r _ => r = .int .i64 (linkM M a b)) := by
  have HF := Lib.hid hf
  clear hf
  have HM := Lib.hid hm
  have B := Cells.new w (mcells P M) 29
  clear hm
  have m0 := mc0 B.2 _ (Gr.refl _)
  have m1 := mc1 B.2 _ (Gr.refl _)
  have m2 := mc2 B.2 _ (Gr.refl _)
  have m3 := mc3 B.2 _ (Gr.refl _)
  have m4 := mc4 B.2 _ (Gr.refl _)
  have m5 := mc5 B.2 _ (Gr.refl _)
  have m6 := mc6 B.2 _ (Gr.refl _)
  have m7 := mc7 B.2 _ (Gr.refl _)
  have m8 := mc8 B.2 _ (Gr.refl _)
  have m9 := mc9 B.2 _ (Gr.refl _)
  have m10 := mc10 B.2 _ (Gr.refl _)
  unfold mcells at B m0 m1 m2 m3 m4 m5 m6 m7 m8 m9 m10 ⊢
  go_enter Tryz.func93, Tryz.ntmps93
  go_wp2_with fail
  clear m0 m1 m2 m3 m4 m5 m6 m7 m8 m9 m10
  generalize w.heap.size = bm at B ⊢
  generalize w.alloc _ = W at B ⊢
  obtain ⟨g0, tm⟩ := B
  have TM := Lib.hid (show Cells W bm (mcells P M) from tm)
  have G := Lib.hid g0
  have HM := Lib.hid (HM.out.grow g0)
  clear g0 tm
  have m0 := mc0 TM.out _ (Gr.refl _)
  have m1 := mc1 TM.out _ (Gr.refl _)
  have m2 := mc2 TM.out _ (Gr.refl _)
  have m3 := mc3 TM.out _ (Gr.refl _)
  have m4 := mc4 TM.out _ (Gr.refl _)
  have m5 := mc5 TM.out _ (Gr.refl _)
  have m6 := mc6 TM.out _ (Gr.refl _)
  have m7 := mc7 TM.out _ (Gr.refl _)
  have m8 := mc8 TM.out _ (Gr.refl _)
  have m9 := mc9 TM.out _ (Gr.refl _)
  have m10 := mc10 TM.out _ (Gr.refl _)
  clear m0 m1 m2 m3 m4 m5 m6 m7 m8 m9 m10
  go_loopw [7] (fun i w9 => ∃ k : Nat, i = .int .i64 (k : Int) ∧ k ≤ M.links.length ∧ (a = b → k = 0) ∧ (∀ (j : Nat) (x : LinkM), j < k → M.links[j]? = some x → joins a b x = false) ∧ Gr W w9) (fun i _ => M.links.length - (RowKit.intOf i).toNat)
  case atStart => exact ⟨0, rfl, Nat.zero_le _, fun _ => rfl, fun j x hj => by omega, Gr.refl _⟩
  case round =>
    obtain ⟨k, rfl, hk, hz, hp, hg⟩ := hrel
    have HP := Lib.hid hp
    have HZ := Lib.hid hz
    have GL := Lib.hid hg
    clear hp hg hz
    have TMx := Lib.hid (TM.out.grow GL.out)
    have hfew := HF.out.1
    by_cases hlt : k < M.links.length
    · have hlt' : (k : Int) < (M.links.length : Int) := by omega
      obtain ⟨b1, o1, x, hp1, hx, hc⟩ := link_at (HM.out.grow GL.out).links rfl hlt
      have HX := Lib.hid hx
      have m4 := mc4 TMx.out _ (Gr.refl _)
      rw [hp1] at m4
      by_cases e : a = b
      · have e0 : (a == b) = true := by simpa using e
        have E := Lib.hid e
        have e1 : (a != b) = false := by simpa using e
        clear hx hc
        clear e
        go_wp2_with fail
        try rw [Exit.noGoto_ret]
        go_ret
        exact ⟨_, rfl, G.out.trans GL.out, by unfold linkM; rw [if_pos E.out]; rfl⟩
      · have e0 : (a == b) = false := by simpa using e
        have e1 : (a != b) = true := by simpa using e
        have E := Lib.hid e
        obtain ⟨c0, c1, c2⟩ := hc _ (Gr.refl _)
        have B := Cells.new wr #[.int .i64 x.a, .int .i64 x.b, .int .i64 x.cap] 118
        have d0 := B.2.at 0 rfl
        have d1 := B.2.at 1 rfl
        have GB := Lib.hid B.1
        obtain ⟨t, ht⟩ : ∃ t, joins a b x = t := ⟨_, rfl⟩
        have HTT := Lib.hid ht
        clear hx hc e B
        unfold joins at ht
        obtain ⟨t1, h1⟩ : ∃ t, (x.a == a) = t := ⟨_, rfl⟩
        obtain ⟨t2, h2⟩ : ∃ t, (x.b == b) = t := ⟨_, rfl⟩
        obtain ⟨t3, h3⟩ : ∃ t, (x.a == b) = t := ⟨_, rfl⟩
        obtain ⟨t4, h4⟩ : ∃ t, (x.b == a) = t := ⟨_, rfl⟩
        rw [h1, h2, h3, h4] at ht
        subst ht
        have HN := Lib.hid (show joins a b x = false → ∀ (j : Nat) (y : LinkM), j < k + 1 → M.links[j]? = some y → joins a b y = false from fun hf j y hj hy => by
          by_cases h : j = k
          · subst h
            obtain rfl : y = x := Option.some.inj (hy.symm.trans HX.out)
            exact hf
          · exact HP.out j y (by omega) hy)
        have HY := Lib.hid (show joins a b x = true → linkM M a b = (k : Int) + 1 from fun hf => by
          unfold linkM
          rw [if_neg E.out, firstAt_some HX.out hf HP.out]
          omega)
        clear HZ
        cases t1 <;> cases t2 <;> cases t3 <;> cases t4 <;> first
        | (go_wp2_with fail
           exact ⟨⟨k + 1, by go_num, by omega, fun h => absurd h E.out, HN.out (HTT.out.trans rfl), GL.out.trans GB.out⟩, by simp [RowKit.intOf]; omega⟩)
        | (go_wp2_with fail
           try rw [Exit.noGoto_ret]
           go_ret
           exact ⟨_, rfl, (G.out.trans GL.out).trans GB.out, by rw [HY.out (HTT.out.trans rfl)]; rfl⟩)
    · obtain rfl : k = M.links.length := by omega
      have m4 := mc4 TMx.out _ (Gr.refl _)
      have HR := Lib.hid (show linkM M a b = 0 from by
        unfold linkM
        split
        · rfl
        · rw [firstAt_none HP.out]; rfl)
      go_wp2_with fail
      try rw [Exit.noGoto_ret]
      go_ret
      exact ⟨_, rfl, G.out.trans GL.out, by rw [HR.out]; rfl⟩
end Go.Proofs.YtdekicijinmakaaGreatDoor

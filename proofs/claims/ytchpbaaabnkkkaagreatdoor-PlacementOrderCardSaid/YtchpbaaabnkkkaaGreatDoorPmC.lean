/-
 site.Domain, Domains of all kinds; exodusref14.Domain, Domains.
-/
import Derived.Test.YtchpbaaabnkkkaaGreatDoorDom
import Derived.Test.YtchpbaaabnkkkaaGreatDoorPlq
namespace Go.Proofs.YtchpbaaabnkkkaaGreatDoor
open Go.RowKit Go.Lib Lex
set_option linter.unusedVariables false
set_option linter.unusedSimpArgs false

set_option maxRecDepth 100000 in
set_option maxHeartbeats 1600000 in
theorem dom_1 (w : World) (P : Ptrs) (M : Mdl) (n : Int) (hm : MdlAt w P M) (hf : Few M) : Calls Tryz.prog 84 #[.agg (mcells P M), .int .i64 1, .int .i64 n] w (Ret w fun r _ => r = .int .i64 (domainM M 1 n)) := by
 have HF := Lib.hid hf
 clear hf
 have he : ∀ args w, (callFunc 173 args).run Tryz.prog w = .ok (.enter 173 args) w := enters_of Tryz.func173 (by kernel_rfl) rfl
 have HM := Lib.hid hm
 have B := Cells.new w (mcells P M) 29
 clear hm
 have m0 := mc0 B.2 _ (Gr.refl _)
 have m1 := mc1 B.2 _ (Gr.refl _)
 have m2 := mc2 B.2 _ (Gr.refl _)
 have m3 := mc3 B.2 _ (Gr.refl _)
 have m4 := mc4 B.2 _ (Gr.refl _)
 have m5 := mc5 B.2 _ (Gr.refl _)
 have m6 := mc6 B.2 _ (Gr.refl _)
 have m7 := mc7 B.2 _ (Gr.refl _)
 have m8 := mc8 B.2 _ (Gr.refl _)
 have m9 := mc9 B.2 _ (Gr.refl _)
 have m10 := mc10 B.2 _ (Gr.refl _)
 unfold mcells at B m0 m1 m2 m3 m4 m5 m6 m7 m8 m9 m10 ⊢
 go_enter Tryz.func84, Tryz.ntmps84
 go_wp2_with fail
 clear m0 m1 m2 m3 m4 m5 m6 m7 m8 m9 m10
 generalize w.heap.size = bm at B ⊢
 generalize w.alloc _ = W at B ⊢
 obtain ⟨g0, tm⟩ := B
 have TM := Lib.hid (show Cells W bm (mcells P M) from tm)
 have G := Lib.hid g0
 have HM := Lib.hid (HM.out.grow g0)
 clear g0 tm
 have m0 := mc0 TM.out _ (Gr.refl _)
 have m1 := mc1 TM.out _ (Gr.refl _)
 have m2 := mc2 TM.out _ (Gr.refl _)
 have m3 := mc3 TM.out _ (Gr.refl _)
 have m4 := mc4 TM.out _ (Gr.refl _)
 have m5 := mc5 TM.out _ (Gr.refl _)
 have m6 := mc6 TM.out _ (Gr.refl _)
 have m7 := mc7 TM.out _ (Gr.refl _)
 have m8 := mc8 TM.out _ (Gr.refl _)
 have m9 := mc9 TM.out _ (Gr.refl _)
 have m10 := mc10 TM.out _ (Gr.refl _)
 clear m0 m1 m2 m3 m4 m5 m6 m7 m8 m9 m10
 refine (site_kinds _ P M HM.out).mono ?_
 rintro _ w1 ⟨_, rfl, g1, b, rfl, hk⟩
 have G := Lib.hid (G.out.trans g1)
 have TM := Lib.hid (TM.out.grow g1)
 have HM := Lib.hid (HM.out.grow g1)
 clear g1
 have hl := (run_lookup_kv (P := Tryz.prog) hk Tryz.underlying136 Tryz.underlying3 (key := .int .i64 1) (v := .agg #[.int .i64 (M.machs.length : Int), .func (.func 173) #[] #[]]) int_keyK rfl).2
 have gA := fun o : Obj => Gr.alloc (Gr.refl w1) o
 have gB := fun o o' : Obj => Gr.alloc (Gr.alloc (Gr.refl w1) o) o'
 have n3 := fun o => mc3 TM.out _ (gA o)
 have n2 := fun o o' => mc2 TM.out _ (gB o o')
 go_wp2_with fail
 refine (site_exists _ _ _).mono ?_
 rintro _ _ ⟨⟨v1, rfl, h1⟩, rfl⟩
 rcases h1.cases with ⟨rfl, k1⟩ | ⟨rfl, k1⟩
 ·obtain ⟨k, rfl⟩ : ∃ k : Nat, n = (k : Int) + 1 := ⟨(n - 1).toNat, by omega⟩
  have hlt : k < M.machs.length := by omega
  have hfew := HF.out.1
  obtain ⟨b1, o1, x, hp1, hx, hc1⟩ := mach_at HM.out.machs rfl hlt
  have hev := dom_eval (K := 1) hx
  have c1 := fun o => (hc1 _ (gA o)).2.1
  have hw1 : IntKind.i64.wrap ((k : Int) + 1 - 1) = (k : Int) := by rw [IntKind.wrap_i64]; omega
  rw [hp1] at n3
  have hlt' : (k : Int) < (M.machs.length : Int) := by omega
  clear h1 k1 hx hc1
  have B := Cells.new w1 #[.int .i64 (M.machs.length : Int), .func (.func 173) #[] #[]] 134
  have q0 := fun o' => (B.2.grow (Gr.alloc (Gr.refl _) o')).at 0 rfl
  have q1 := fun o' => (B.2.grow (Gr.alloc (Gr.refl _) o')).at 1 rfl
  have HB := Lib.hid B.2
  have HGB := Lib.hid (show ∀ o o' : Obj, Gr w1 ((w1.alloc o).alloc o') from gB)
  clear gA B
  go_wp2_with fail
  refine (site_exists _ _ _).mono ?_
  rintro _ _ ⟨⟨v2, rfl, h2⟩, rfl⟩
  rcases h2.cases with ⟨rfl, k2⟩ | ⟨rfl, k2⟩
  ·obtain ⟨r, hr⟩ : ∃ r : Nat, x.rack = (r : Int) + 1 := ⟨(x.rack - 1).toNat, by omega⟩
   rw [hr] at k2 hev
   have hrl : r < M.racks.length := by omega
   obtain ⟨b2, o2, y, hp2, hy, hc2⟩ := rack_at HM.out.racks rfl hrl
   rw [rack_eval hy] at hev
   have HEV := Lib.hid (show domainM M 1 ((k : Int) + 1) = if 1 ≤ (((k : Int) + 1)) ∧ (((k : Int) + 1)) ≤ (M.machs.length : Int) then (((k : Int) + 1)) else 0 from by rw [hev]; simp [domsM])
   have y0 := fun o o' => (hc2 _ (gB o o')).1
   have y1 := fun o o' => (hc2 _ (gB o o')).2.1
   have y2 := fun o o' => (hc2 _ (gB o o')).2.2
   have hw2 : IntKind.i64.wrap ((r : Int) + 1 - 1) = (r : Int) := by rw [IntKind.wrap_i64]; omega
   rw [hp2] at n2
   rw [hr]
   have hrl' : (r : Int) < (M.racks.length : Int) := by omega
   clear h2 hev hy hc2 gB k2
   go_wp2_with fail
   have HB3 := Lib.hid (HB.out.grow (Gr.alloc (Gr.refl _) (.cells (rackV y) 66)))
   have HG3 := Lib.hid (HGB.out (.cells #[.int .i64 (M.machs.length : Int), .func (.func 173) #[] #[]] 134) (.cells (rackV y) 66))
   clear n3 n2 c1 q0 q1 y0 y1 y2 hl
   unfold rackV at HB3 HG3
   generalize w1.heap.size = b3 at HB3 ⊢
   generalize (w1.alloc _).alloc _ = W3 at HB3 HG3 ⊢
   refine (kind_1 W3 _ _ y).mono ?_
   rintro _ w5 ⟨_, rfl, g5, rfl⟩
   have q0 := (HB3.out.grow g5).at 0 rfl
   have HG5 := Lib.hid g5
   clear g5
   go_wp2_with fail
   refine (site_exists _ _ _).mono ?_
   rintro _ _ ⟨⟨v3, rfl, h3⟩, rfl⟩
   rcases h3.cases with ⟨rfl, k3⟩ | ⟨rfl, k3⟩
   ·have H3 := Lib.hid k3
    clear k3 h3
    go_wp2_with fail
    try rw [Exit.noGoto_ret]
    go_ret
    exact ⟨_, rfl, (G.out.trans HG3.out).trans HG5.out, by rw [HEV.out, if_pos H3.out]; rfl⟩
   ·have H3 := Lib.hid k3
    clear k3 h3
    go_wp2_with fail
    try rw [Exit.noGoto_ret]
    go_ret
    exact ⟨_, rfl, (G.out.trans HG3.out).trans HG5.out, by rw [HEV.out, if_neg H3.out]; rfl⟩
  ·have HEV := Lib.hid (show domainM M 1 ((k : Int) + 1) = (k : Int) + 1 from by
    have hdm : domsM M 1 = (M.machs.length : Int) := by simp [domsM]
    rw [hev, hdm]
    simp only [if_true]
    rw [if_pos ⟨by omega, by omega⟩])
   clear h2 hev gB
   go_wp2_with fail
   have HB3 := Lib.hid (HB.out.grow (Gr.alloc (Gr.refl _) (.cells (rackV ⟨[], 0, 0⟩) 66)))
   have HG3 := Lib.hid (HGB.out (.cells #[.int .i64 (M.machs.length : Int), .func (.func 173) #[] #[]] 134) (.cells (rackV ⟨[], 0, 0⟩) 66))
   clear n3 n2 c1 q0 q1 hl
   unfold rackV at HB3 HG3
   generalize w1.heap.size = b3 at HB3 ⊢
   generalize (w1.alloc _).alloc _ = W3 at HB3 HG3 ⊢
   refine (kind_1 W3 _ _ ⟨[], 0, 0⟩).mono ?_
   rintro _ w5 ⟨_, rfl, g5, rfl⟩
   have q0 := (HB3.out.grow g5).at 0 rfl
   have HG5 := Lib.hid g5
   clear g5
   go_wp2_with fail
   refine (site_exists _ _ _).mono ?_
   rintro _ _ ⟨⟨v3, rfl, h3⟩, rfl⟩
   rcases h3.cases with ⟨rfl, k3⟩ | ⟨rfl, k3⟩
   ·clear k3 h3
    go_wp2_with fail
    try rw [Exit.noGoto_ret]
    go_ret
    exact ⟨_, rfl, (G.out.trans HG3.out).trans HG5.out, by rw [HEV.out]; rfl⟩
   ·exact absurd ⟨by omega, by omega⟩ k3
 ·have HE := Lib.hid (show domainM M 1 n = 0 from by unfold domainM; rw [if_neg k1])
  have HGA := Lib.hid (show ∀ o : Obj, Gr w1 (w1.alloc o) from gA)
  go_wp2_with fail
  try rw [Exit.noGoto_ret]
  go_ret
  exact ⟨_, rfl, G.out.trans (HGA.out _), by rw [HE.out]; rfl⟩
set_option maxRecDepth 100000 in
set_option maxHeartbeats 1600000 in
theorem dom_2 (w : World) (P : Ptrs) (M : Mdl) (n : Int) (hm : MdlAt w P M) (hf : Few M) : Calls Tryz.prog 84 #[.agg (mcells P M), .int .i64 2, .int .i64 n] w (Ret w fun r _ => r = .int .i64 (domainM M 2 n)) := by
 have HF := Lib.hid hf
 clear hf
 have he : ∀ args w, (callFunc 174 args).run Tryz.prog w = .ok (.enter 174 args) w := enters_of Tryz.func174 (by kernel_rfl) rfl
 have HM := Lib.hid hm
 have B := Cells.new w (mcells P M) 29
 clear hm
 have m0 := mc0 B.2 _ (Gr.refl _)
 have m1 := mc1 B.2 _ (Gr.refl _)
 have m2 := mc2 B.2 _ (Gr.refl _)
 have m3 := mc3 B.2 _ (Gr.refl _)
 have m4 := mc4 B.2 _ (Gr.refl _)
 have m5 := mc5 B.2 _ (Gr.refl _)
 have m6 := mc6 B.2 _ (Gr.refl _)
 have m7 := mc7 B.2 _ (Gr.refl _)
 have m8 := mc8 B.2 _ (Gr.refl _)
 have m9 := mc9 B.2 _ (Gr.refl _)
 have m10 := mc10 B.2 _ (Gr.refl _)
 unfold mcells at B m0 m1 m2 m3 m4 m5 m6 m7 m8 m9 m10 ⊢
 go_enter Tryz.func84, Tryz.ntmps84
 go_wp2_with fail
 clear m0 m1 m2 m3 m4 m5 m6 m7 m8 m9 m10
 generalize w.heap.size = bm at B ⊢
 generalize w.alloc _ = W at B ⊢
 obtain ⟨g0, tm⟩ := B
 have TM := Lib.hid (show Cells W bm (mcells P M) from tm)
 have G := Lib.hid g0
 have HM := Lib.hid (HM.out.grow g0)
 clear g0 tm
 have m0 := mc0 TM.out _ (Gr.refl _)
 have m1 := mc1 TM.out _ (Gr.refl _)
 have m2 := mc2 TM.out _ (Gr.refl _)
 have m3 := mc3 TM.out _ (Gr.refl _)
 have m4 := mc4 TM.out _ (Gr.refl _)
 have m5 := mc5 TM.out _ (Gr.refl _)
 have m6 := mc6 TM.out _ (Gr.refl _)
 have m7 := mc7 TM.out _ (Gr.refl _)
 have m8 := mc8 TM.out _ (Gr.refl _)
 have m9 := mc9 TM.out _ (Gr.refl _)
 have m10 := mc10 TM.out _ (Gr.refl _)
 clear m0 m1 m2 m3 m4 m5 m6 m7 m8 m9 m10
 refine (site_kinds _ P M HM.out).mono ?_
 rintro _ w1 ⟨_, rfl, g1, b, rfl, hk⟩
 have G := Lib.hid (G.out.trans g1)
 have TM := Lib.hid (TM.out.grow g1)
 have HM := Lib.hid (HM.out.grow g1)
 clear g1
 have hl := (run_lookup_kv (P := Tryz.prog) hk Tryz.underlying136 Tryz.underlying3 (key := .int .i64 2) (v := .agg #[.int .i64 (M.racks.length : Int), .func (.func 174) #[] #[]]) int_keyK rfl).2
 have gA := fun o : Obj => Gr.alloc (Gr.refl w1) o
 have gB := fun o o' : Obj => Gr.alloc (Gr.alloc (Gr.refl w1) o) o'
 have n3 := fun o => mc3 TM.out _ (gA o)
 have n2 := fun o o' => mc2 TM.out _ (gB o o')
 go_wp2_with fail
 refine (site_exists _ _ _).mono ?_
 rintro _ _ ⟨⟨v1, rfl, h1⟩, rfl⟩
 rcases h1.cases with ⟨rfl, k1⟩ | ⟨rfl, k1⟩
 ·obtain ⟨k, rfl⟩ : ∃ k : Nat, n = (k : Int) + 1 := ⟨(n - 1).toNat, by omega⟩
  have hlt : k < M.machs.length := by omega
  have hfew := HF.out.1
  obtain ⟨b1, o1, x, hp1, hx, hc1⟩ := mach_at HM.out.machs rfl hlt
  have hev := dom_eval (K := 2) hx
  have c1 := fun o => (hc1 _ (gA o)).2.1
  have hw1 : IntKind.i64.wrap ((k : Int) + 1 - 1) = (k : Int) := by rw [IntKind.wrap_i64]; omega
  rw [hp1] at n3
  have hlt' : (k : Int) < (M.machs.length : Int) := by omega
  clear h1 k1 hx hc1
  have B := Cells.new w1 #[.int .i64 (M.racks.length : Int), .func (.func 174) #[] #[]] 134
  have q0 := fun o' => (B.2.grow (Gr.alloc (Gr.refl _) o')).at 0 rfl
  have q1 := fun o' => (B.2.grow (Gr.alloc (Gr.refl _) o')).at 1 rfl
  have HB := Lib.hid B.2
  have HGB := Lib.hid (show ∀ o o' : Obj, Gr w1 ((w1.alloc o).alloc o') from gB)
  clear gA B
  go_wp2_with fail
  refine (site_exists _ _ _).mono ?_
  rintro _ _ ⟨⟨v2, rfl, h2⟩, rfl⟩
  rcases h2.cases with ⟨rfl, k2⟩ | ⟨rfl, k2⟩
  ·obtain ⟨r, hr⟩ : ∃ r : Nat, x.rack = (r : Int) + 1 := ⟨(x.rack - 1).toNat, by omega⟩
   rw [hr] at k2 hev
   have hrl : r < M.racks.length := by omega
   obtain ⟨b2, o2, y, hp2, hy, hc2⟩ := rack_at HM.out.racks rfl hrl
   rw [rack_eval hy] at hev
   have HEV := Lib.hid (show domainM M 2 ((k : Int) + 1) = if 1 ≤ (((r : Int) + 1)) ∧ (((r : Int) + 1)) ≤ (M.racks.length : Int) then (((r : Int) + 1)) else 0 from by rw [hev]; simp [domsM])
   have y0 := fun o o' => (hc2 _ (gB o o')).1
   have y1 := fun o o' => (hc2 _ (gB o o')).2.1
   have y2 := fun o o' => (hc2 _ (gB o o')).2.2
   have hw2 : IntKind.i64.wrap ((r : Int) + 1 - 1) = (r : Int) := by rw [IntKind.wrap_i64]; omega
   rw [hp2] at n2
   rw [hr]
   have hrl' : (r : Int) < (M.racks.length : Int) := by omega
   clear h2 hev hy hc2 gB k2
   go_wp2_with fail
   have HB3 := Lib.hid (HB.out.grow (Gr.alloc (Gr.refl _) (.cells (rackV y) 66)))
   have HG3 := Lib.hid (HGB.out (.cells #[.int .i64 (M.racks.length : Int), .func (.func 174) #[] #[]] 134) (.cells (rackV y) 66))
   clear n3 n2 c1 q0 q1 y0 y1 y2 hl
   unfold rackV at HB3 HG3
   generalize w1.heap.size = b3 at HB3 ⊢
   generalize (w1.alloc _).alloc _ = W3 at HB3 HG3 ⊢
   refine (kind_2 W3 _ _ y).mono ?_
   rintro _ w5 ⟨_, rfl, g5, rfl⟩
   have q0 := (HB3.out.grow g5).at 0 rfl
   have HG5 := Lib.hid g5
   clear g5
   go_wp2_with fail
   refine (site_exists _ _ _).mono ?_
   rintro _ _ ⟨⟨v3, rfl, h3⟩, rfl⟩
   rcases h3.cases with ⟨rfl, k3⟩ | ⟨rfl, k3⟩
   ·have H3 := Lib.hid k3
    clear k3 h3
    go_wp2_with fail
    try rw [Exit.noGoto_ret]
    go_ret
    exact ⟨_, rfl, (G.out.trans HG3.out).trans HG5.out, by rw [HEV.out, if_pos H3.out]; rfl⟩
   ·have H3 := Lib.hid k3
    clear k3 h3
    go_wp2_with fail
    try rw [Exit.noGoto_ret]
    go_ret
    exact ⟨_, rfl, (G.out.trans HG3.out).trans HG5.out, by rw [HEV.out, if_neg H3.out]; rfl⟩
  ·have HE := Lib.hid (show domainM M 2 ((k : Int) + 1) = 0 from by rw [hev, rack_none k2]; simp)
   clear h2 hev gB
   go_wp2_with fail
   try rw [Exit.noGoto_ret]
   go_ret
   exact ⟨_, rfl, G.out.trans (HGB.out _ _), by rw [HE.out]; rfl⟩
 ·have HE := Lib.hid (show domainM M 2 n = 0 from by unfold domainM; rw [if_neg k1])
  have HGA := Lib.hid (show ∀ o : Obj, Gr w1 (w1.alloc o) from gA)
  go_wp2_with fail
  try rw [Exit.noGoto_ret]
  go_ret
  exact ⟨_, rfl, G.out.trans (HGA.out _), by rw [HE.out]; rfl⟩
set_option maxRecDepth 100000 in
set_option maxHeartbeats 1600000 in
theorem dom_3 (w : World) (P : Ptrs) (M : Mdl) (n : Int) (hm : MdlAt w P M) (hf : Few M) : Calls Tryz.prog 84 #[.agg (mcells P M), .int .i64 3, .int .i64 n] w (Ret w fun r _ => r = .int .i64 (domainM M 3 n)) := by
 have HF := Lib.hid hf
 clear hf
 have he : ∀ args w, (callFunc 175 args).run Tryz.prog w = .ok (.enter 175 args) w := enters_of Tryz.func175 (by kernel_rfl) rfl
 have HM := Lib.hid hm
 have B := Cells.new w (mcells P M) 29
 clear hm
 have m0 := mc0 B.2 _ (Gr.refl _)
 have m1 := mc1 B.2 _ (Gr.refl _)
 have m2 := mc2 B.2 _ (Gr.refl _)
 have m3 := mc3 B.2 _ (Gr.refl _)
 have m4 := mc4 B.2 _ (Gr.refl _)
 have m5 := mc5 B.2 _ (Gr.refl _)
 have m6 := mc6 B.2 _ (Gr.refl _)
 have m7 := mc7 B.2 _ (Gr.refl _)
 have m8 := mc8 B.2 _ (Gr.refl _)
 have m9 := mc9 B.2 _ (Gr.refl _)
 have m10 := mc10 B.2 _ (Gr.refl _)
 unfold mcells at B m0 m1 m2 m3 m4 m5 m6 m7 m8 m9 m10 ⊢
 go_enter Tryz.func84, Tryz.ntmps84
 go_wp2_with fail
 clear m0 m1 m2 m3 m4 m5 m6 m7 m8 m9 m10
 generalize w.heap.size = bm at B ⊢
 generalize w.alloc _ = W at B ⊢
 obtain ⟨g0, tm⟩ := B
 have TM := Lib.hid (show Cells W bm (mcells P M) from tm)
 have G := Lib.hid g0
 have HM := Lib.hid (HM.out.grow g0)
 clear g0 tm
 have m0 := mc0 TM.out _ (Gr.refl _)
 have m1 := mc1 TM.out _ (Gr.refl _)
 have m2 := mc2 TM.out _ (Gr.refl _)
 have m3 := mc3 TM.out _ (Gr.refl _)
 have m4 := mc4 TM.out _ (Gr.refl _)
 have m5 := mc5 TM.out _ (Gr.refl _)
 have m6 := mc6 TM.out _ (Gr.refl _)
 have m7 := mc7 TM.out _ (Gr.refl _)
 have m8 := mc8 TM.out _ (Gr.refl _)
 have m9 := mc9 TM.out _ (Gr.refl _)
 have m10 := mc10 TM.out _ (Gr.refl _)
 clear m0 m1 m2 m3 m4 m5 m6 m7 m8 m9 m10
 refine (site_kinds _ P M HM.out).mono ?_
 rintro _ w1 ⟨_, rfl, g1, b, rfl, hk⟩
 have G := Lib.hid (G.out.trans g1)
 have TM := Lib.hid (TM.out.grow g1)
 have HM := Lib.hid (HM.out.grow g1)
 clear g1
 have hl := (run_lookup_kv (P := Tryz.prog) hk Tryz.underlying136 Tryz.underlying3 (key := .int .i64 3) (v := .agg #[.int .i64 (M.feeds.length : Int), .func (.func 175) #[] #[]]) int_keyK rfl).2
 have gA := fun o : Obj => Gr.alloc (Gr.refl w1) o
 have gB := fun o o' : Obj => Gr.alloc (Gr.alloc (Gr.refl w1) o) o'
 have n3 := fun o => mc3 TM.out _ (gA o)
 have n2 := fun o o' => mc2 TM.out _ (gB o o')
 go_wp2_with fail
 refine (site_exists _ _ _).mono ?_
 rintro _ _ ⟨⟨v1, rfl, h1⟩, rfl⟩
 rcases h1.cases with ⟨rfl, k1⟩ | ⟨rfl, k1⟩
 ·obtain ⟨k, rfl⟩ : ∃ k : Nat, n = (k : Int) + 1 := ⟨(n - 1).toNat, by omega⟩
  have hlt : k < M.machs.length := by omega
  have hfew := HF.out.1
  obtain ⟨b1, o1, x, hp1, hx, hc1⟩ := mach_at HM.out.machs rfl hlt
  have hev := dom_eval (K := 3) hx
  have c1 := fun o => (hc1 _ (gA o)).2.1
  have hw1 : IntKind.i64.wrap ((k : Int) + 1 - 1) = (k : Int) := by rw [IntKind.wrap_i64]; omega
  rw [hp1] at n3
  have hlt' : (k : Int) < (M.machs.length : Int) := by omega
  clear h1 k1 hx hc1
  have B := Cells.new w1 #[.int .i64 (M.feeds.length : Int), .func (.func 175) #[] #[]] 134
  have q0 := fun o' => (B.2.grow (Gr.alloc (Gr.refl _) o')).at 0 rfl
  have q1 := fun o' => (B.2.grow (Gr.alloc (Gr.refl _) o')).at 1 rfl
  have HB := Lib.hid B.2
  have HGB := Lib.hid (show ∀ o o' : Obj, Gr w1 ((w1.alloc o).alloc o') from gB)
  clear gA B
  go_wp2_with fail
  refine (site_exists _ _ _).mono ?_
  rintro _ _ ⟨⟨v2, rfl, h2⟩, rfl⟩
  rcases h2.cases with ⟨rfl, k2⟩ | ⟨rfl, k2⟩
  ·obtain ⟨r, hr⟩ : ∃ r : Nat, x.rack = (r : Int) + 1 := ⟨(x.rack - 1).toNat, by omega⟩
   rw [hr] at k2 hev
   have hrl : r < M.racks.length := by omega
   obtain ⟨b2, o2, y, hp2, hy, hc2⟩ := rack_at HM.out.racks rfl hrl
   rw [rack_eval hy] at hev
   have HEV := Lib.hid (show domainM M 3 ((k : Int) + 1) = if 1 ≤ (y.feed) ∧ (y.feed) ≤ (M.feeds.length : Int) then (y.feed) else 0 from by rw [hev]; simp [domsM])
   have y0 := fun o o' => (hc2 _ (gB o o')).1
   have y1 := fun o o' => (hc2 _ (gB o o')).2.1
   have y2 := fun o o' => (hc2 _ (gB o o')).2.2
   have hw2 : IntKind.i64.wrap ((r : Int) + 1 - 1) = (r : Int) := by rw [IntKind.wrap_i64]; omega
   rw [hp2] at n2
   rw [hr]
   have hrl' : (r : Int) < (M.racks.length : Int) := by omega
   clear h2 hev hy hc2 gB k2
   go_wp2_with fail
   have HB3 := Lib.hid (HB.out.grow (Gr.alloc (Gr.refl _) (.cells (rackV y) 66)))
   have HG3 := Lib.hid (HGB.out (.cells #[.int .i64 (M.feeds.length : Int), .func (.func 175) #[] #[]] 134) (.cells (rackV y) 66))
   clear n3 n2 c1 q0 q1 y0 y1 y2 hl
   unfold rackV at HB3 HG3
   generalize w1.heap.size = b3 at HB3 ⊢
   generalize (w1.alloc _).alloc _ = W3 at HB3 HG3 ⊢
   refine (kind_3 W3 _ _ y).mono ?_
   rintro _ w5 ⟨_, rfl, g5, rfl⟩
   have q0 := (HB3.out.grow g5).at 0 rfl
   have HG5 := Lib.hid g5
   clear g5
   go_wp2_with fail
   refine (site_exists _ _ _).mono ?_
   rintro _ _ ⟨⟨v3, rfl, h3⟩, rfl⟩
   rcases h3.cases with ⟨rfl, k3⟩ | ⟨rfl, k3⟩
   ·have H3 := Lib.hid k3
    clear k3 h3
    go_wp2_with fail
    try rw [Exit.noGoto_ret]
    go_ret
    exact ⟨_, rfl, (G.out.trans HG3.out).trans HG5.out, by rw [HEV.out, if_pos H3.out]; rfl⟩
   ·have H3 := Lib.hid k3
    clear k3 h3
    go_wp2_with fail
    try rw [Exit.noGoto_ret]
    go_ret
    exact ⟨_, rfl, (G.out.trans HG3.out).trans HG5.out, by rw [HEV.out, if_neg H3.out]; rfl⟩
  ·have HE := Lib.hid (show domainM M 3 ((k : Int) + 1) = 0 from by rw [hev, rack_none k2]; simp)
   clear h2 hev gB
   go_wp2_with fail
   try rw [Exit.noGoto_ret]
   go_ret
   exact ⟨_, rfl, G.out.trans (HGB.out _ _), by rw [HE.out]; rfl⟩
 ·have HE := Lib.hid (show domainM M 3 n = 0 from by unfold domainM; rw [if_neg k1])
  have HGA := Lib.hid (show ∀ o : Obj, Gr w1 (w1.alloc o) from gA)
  go_wp2_with fail
  try rw [Exit.noGoto_ret]
  go_ret
  exact ⟨_, rfl, G.out.trans (HGA.out _), by rw [HE.out]; rfl⟩
theorem dom_zero (M : Mdl) {k : Int} (hk : ¬ (1 ≤ k ∧ k ≤ 4)) : domsM M k = 0 := by
 unfold domsM
 rw [if_neg (by omega), if_neg (by omega), if_neg (by omega), if_neg (by omega)]
theorem domain_zero (M : Mdl) {k : Int} (hk : ¬ (1 ≤ k ∧ k ≤ 4)) (n : Int) : domainM M k n = 0 := by
 rcases domainM_cases M k n with h | h
 ·exact h
 ·rw [dom_zero M hk] at h; omega
theorem kinds_none {M : Mdl} {k : Int} (hk : ¬ (1 ≤ k ∧ k ≤ 4)) : fkv (.int .i64) (.int .i64 k) (kindsL M) = some none := by
 have h1 : (k == 1) = false := by simp; omega
 have h2 : (k == 2) = false := by simp; omega
 have h3 : (k == 3) = false := by simp; omega
 have h4 : (k == 4) = false := by simp; omega
 simp [fkv, kindsL, Instr.sameNow, h1, h2, h3, h4]
theorem kinds_look (w : World) (b : Nat) (M : Mdl) (h : MapAt w b (kindsL M)) {k : Int} (hk : ¬ (1 ≤ k ∧ k ≤ 4)) :
  (Instr.lookup 136 (.map (some b)) (.int .i64 k) false).run Tryz.prog w = .ok (.agg #[.int .i64 0, .nilFunc]) w ∧ (Instr.lookup 136 (.map (some b)) (.int .i64 k) true).run Tryz.prog w = .ok (.tuple #[.agg #[.int .i64 0, .nilFunc], .bool false]) w :=
 run_lookup_none h Tryz.underlying136 Tryz.underlying3 int_keyK (by kernel_rfl) (kinds_none hk)
set_option maxRecDepth 100000 in
theorem dom_else (w : World) (P : Ptrs) (M : Mdl) (k n : Int) (hm : MdlAt w P M) (hk : ¬ (1 ≤ k ∧ k ≤ 4)) : Calls Tryz.prog 84 #[.agg (mcells P M), .int .i64 k, .int .i64 n] w (Ret w fun r _ => r = .int .i64 (domainM M k n)) := by
 have HZ := Lib.hid (domain_zero M hk n)
 have HK := Lib.hid hk
 clear hk
 have HM := Lib.hid hm
 have B := Cells.new w (mcells P M) 29
 clear hm
 have m0 := mc0 B.2 _ (Gr.refl _)
 have m1 := mc1 B.2 _ (Gr.refl _)
 have m2 := mc2 B.2 _ (Gr.refl _)
 have m3 := mc3 B.2 _ (Gr.refl _)
 have m4 := mc4 B.2 _ (Gr.refl _)
 have m5 := mc5 B.2 _ (Gr.refl _)
 have m6 := mc6 B.2 _ (Gr.refl _)
 have m7 := mc7 B.2 _ (Gr.refl _)
 have m8 := mc8 B.2 _ (Gr.refl _)
 have m9 := mc9 B.2 _ (Gr.refl _)
 have m10 := mc10 B.2 _ (Gr.refl _)
 unfold mcells at B m0 m1 m2 m3 m4 m5 m6 m7 m8 m9 m10 ⊢
 go_enter Tryz.func84, Tryz.ntmps84
 go_wp2_with fail
 clear m0 m1 m2 m3 m4 m5 m6 m7 m8 m9 m10
 generalize w.heap.size = bm at B ⊢
 generalize w.alloc _ = W at B ⊢
 obtain ⟨g0, tm⟩ := B
 have TM := Lib.hid (show Cells W bm (mcells P M) from tm)
 have G := Lib.hid g0
 have HM := Lib.hid (HM.out.grow g0)
 clear g0 tm
 have m0 := mc0 TM.out _ (Gr.refl _)
 have m1 := mc1 TM.out _ (Gr.refl _)
 have m2 := mc2 TM.out _ (Gr.refl _)
 have m3 := mc3 TM.out _ (Gr.refl _)
 have m4 := mc4 TM.out _ (Gr.refl _)
 have m5 := mc5 TM.out _ (Gr.refl _)
 have m6 := mc6 TM.out _ (Gr.refl _)
 have m7 := mc7 TM.out _ (Gr.refl _)
 have m8 := mc8 TM.out _ (Gr.refl _)
 have m9 := mc9 TM.out _ (Gr.refl _)
 have m10 := mc10 TM.out _ (Gr.refl _)
 clear m0 m1 m2 m3 m4 m5 m6 m7 m8 m9 m10
 refine (site_kinds _ P M HM.out).mono ?_
 rintro _ w1 ⟨_, rfl, g1, b, rfl, hkk⟩
 have hl := (kinds_look w1 b M hkk HK.out).2
 have G := Lib.hid ((G.out.trans g1).alloc (.cells #[.int .i64 0, .nilFunc] 134))
 clear g1 hkk
 go_wp2_with fail
 try rw [Exit.noGoto_ret]
 go_ret
 exact ⟨_, rfl, G.out, by rw [HZ.out]; rfl⟩
theorem site_Domain (w : World) (P : Ptrs) (M : Mdl) (k n : Int) (hm : MdlAt w P M) (hf : Few M) : Calls Tryz.prog 84 #[.agg (mcells P M), .int .i64 k, .int .i64 n] w (Ret w fun r _ => r = .int .i64 (domainM M k n)) := by
 by_cases hk : 1 ≤ k ∧ k ≤ 4
 ·obtain h | h | h | h : k = 1 ∨ k = 2 ∨ k = 3 ∨ k = 4 := by omega
  ·subst h; exact dom_1 w P M n hm hf
  ·subst h; exact dom_2 w P M n hm hf
  ·subst h; exact dom_3 w P M n hm hf
  ·subst h; exact dom_4 w P M n hm hf
 ·exact dom_else w P M k n hm hk
theorem kind_field (w : World) (n : Int) (v : Value) : (Instr.field 134 (.agg #[.int .i64 n, v]) 0).run Tryz.prog w = .ok (.int .i64 n) w := by
 have q : (isAgg 3).run Tryz.prog w = .ok false w := by
  simp [isAgg, run_underlying Tryz.underlying3]
 simp [Instr.field, run_underlying Tryz.underlying134, part, q, asAgg, Result.andThen]
set_option maxRecDepth 100000 in
theorem site_Domains (w : World) (P : Ptrs) (M : Mdl) (k : Int) (hm : MdlAt w P M) : Calls Tryz.prog 86 #[.agg (mcells P M), .int .i64 k] w (Ret w fun r _ => r = .int .i64 (domsM M k)) := by
 have HK := Lib.hid (show ∀ (w1 : World) (b : Nat), MapAt w1 b (kindsL M) → ∃ v : Value, (Instr.lookup 136 (.map (some b)) (.int .i64 k) false).run Tryz.prog w1 = .ok (.agg #[.int .i64 (domsM M k), v]) w1 from fun w1 b h => by
  by_cases hk : 1 ≤ k ∧ k ≤ 4
  ·obtain e | e | e | e : k = 1 ∨ k = 2 ∨ k = 3 ∨ k = 4 := by omega
   ·subst e; exact ⟨_, (run_lookup_kv (P := Tryz.prog) h Tryz.underlying136 Tryz.underlying3 (key := .int .i64 1) (v := .agg #[.int .i64 (domsM M 1), .func (.func 173) #[] #[]]) int_keyK rfl).1⟩
   ·subst e; exact ⟨_, (run_lookup_kv (P := Tryz.prog) h Tryz.underlying136 Tryz.underlying3 (key := .int .i64 2) (v := .agg #[.int .i64 (domsM M 2), .func (.func 174) #[] #[]]) int_keyK rfl).1⟩
   ·subst e; exact ⟨_, (run_lookup_kv (P := Tryz.prog) h Tryz.underlying136 Tryz.underlying3 (key := .int .i64 3) (v := .agg #[.int .i64 (domsM M 3), .func (.func 175) #[] #[]]) int_keyK rfl).1⟩
   ·subst e; exact ⟨_, (run_lookup_kv (P := Tryz.prog) h Tryz.underlying136 Tryz.underlying3 (key := .int .i64 4) (v := .agg #[.int .i64 (domsM M 4), .func (.func 176) #[] #[]]) int_keyK rfl).1⟩
  ·exact ⟨.nilFunc, by rw [dom_zero M hk]; exact (kinds_look w1 b M h hk).1⟩)
 have HM := Lib.hid hm
 have B := Cells.new w (mcells P M) 29
 clear hm
 have m0 := mc0 B.2 _ (Gr.refl _)
 have m1 := mc1 B.2 _ (Gr.refl _)
 have m2 := mc2 B.2 _ (Gr.refl _)
 have m3 := mc3 B.2 _ (Gr.refl _)
 have m4 := mc4 B.2 _ (Gr.refl _)
 have m5 := mc5 B.2 _ (Gr.refl _)
 have m6 := mc6 B.2 _ (Gr.refl _)
 have m7 := mc7 B.2 _ (Gr.refl _)
 have m8 := mc8 B.2 _ (Gr.refl _)
 have m9 := mc9 B.2 _ (Gr.refl _)
 have m10 := mc10 B.2 _ (Gr.refl _)
 unfold mcells at B m0 m1 m2 m3 m4 m5 m6 m7 m8 m9 m10 ⊢
 go_enter Tryz.func86, Tryz.ntmps86
 go_wp2_with fail
 clear m0 m1 m2 m3 m4 m5 m6 m7 m8 m9 m10
 generalize w.heap.size = bm at B ⊢
 generalize w.alloc _ = W at B ⊢
 obtain ⟨g0, tm⟩ := B
 have TM := Lib.hid (show Cells W bm (mcells P M) from tm)
 have G := Lib.hid g0
 have HM := Lib.hid (HM.out.grow g0)
 clear g0 tm
 have m0 := mc0 TM.out _ (Gr.refl _)
 have m1 := mc1 TM.out _ (Gr.refl _)
 have m2 := mc2 TM.out _ (Gr.refl _)
 have m3 := mc3 TM.out _ (Gr.refl _)
 have m4 := mc4 TM.out _ (Gr.refl _)
 have m5 := mc5 TM.out _ (Gr.refl _)
 have m6 := mc6 TM.out _ (Gr.refl _)
 have m7 := mc7 TM.out _ (Gr.refl _)
 have m8 := mc8 TM.out _ (Gr.refl _)
 have m9 := mc9 TM.out _ (Gr.refl _)
 have m10 := mc10 TM.out _ (Gr.refl _)
 clear m0 m1 m2 m3 m4 m5 m6 m7 m8 m9 m10
 refine (site_kinds _ P M HM.out).mono ?_
 rintro _ w1 ⟨_, rfl, g1, b, rfl, hkk⟩
 obtain ⟨v, hl⟩ := HK.out w1 b hkk
 have hfl := kind_field w1 (domsM M k) v
 have G := Lib.hid (G.out.trans g1)
 clear g1 hkk
 go_wp2_with fail
 go_ret
 exact ⟨_, rfl, G.out, rfl⟩
set_option maxRecDepth 100000 in
theorem ref_Domains14 (w : World) (P : Ptrs) (M : Mdl) (k : Int) (hm : MdlAt w P M) : Calls Tryz.prog 87 #[.agg (mcells P M), .int .i64 k] w (Ret w fun r _ => r = .int .i64 (domsM M k)) := by
 by_cases hk : 1 ≤ k ∧ k ≤ 4
 ·obtain h | h | h | h : k = 1 ∨ k = 2 ∨ k = 3 ∨ k = 4 := by omega
  ·have HR := Lib.hid (show domsM M 1 = (M.machs.length : Int) by simp [domsM])
   subst h
   have HM := Lib.hid hm
   have B := Cells.new w (mcells P M) 29
   clear hm
   have m0 := mc0 B.2 _ (Gr.refl _)
   have m1 := mc1 B.2 _ (Gr.refl _)
   have m2 := mc2 B.2 _ (Gr.refl _)
   have m3 := mc3 B.2 _ (Gr.refl _)
   have m4 := mc4 B.2 _ (Gr.refl _)
   have m5 := mc5 B.2 _ (Gr.refl _)
   have m6 := mc6 B.2 _ (Gr.refl _)
   have m7 := mc7 B.2 _ (Gr.refl _)
   have m8 := mc8 B.2 _ (Gr.refl _)
   have m9 := mc9 B.2 _ (Gr.refl _)
   have m10 := mc10 B.2 _ (Gr.refl _)
   unfold mcells at B m0 m1 m2 m3 m4 m5 m6 m7 m8 m9 m10 ⊢
   go_enter Tryz.func87, Tryz.ntmps87
   go_wp2_with fail
   clear m0 m1 m2 m3 m4 m5 m6 m7 m8 m9 m10
   generalize w.heap.size = bm at B ⊢
   generalize w.alloc _ = W at B ⊢
   obtain ⟨g0, tm⟩ := B
   have TM := Lib.hid (show Cells W bm (mcells P M) from tm)
   have G := Lib.hid g0
   have HM := Lib.hid (HM.out.grow g0)
   clear g0 tm
   have m0 := mc0 TM.out _ (Gr.refl _)
   have m1 := mc1 TM.out _ (Gr.refl _)
   have m2 := mc2 TM.out _ (Gr.refl _)
   have m3 := mc3 TM.out _ (Gr.refl _)
   have m4 := mc4 TM.out _ (Gr.refl _)
   have m5 := mc5 TM.out _ (Gr.refl _)
   have m6 := mc6 TM.out _ (Gr.refl _)
   have m7 := mc7 TM.out _ (Gr.refl _)
   have m8 := mc8 TM.out _ (Gr.refl _)
   have m9 := mc9 TM.out _ (Gr.refl _)
   have m10 := mc10 TM.out _ (Gr.refl _)
   try rw [Exit.noGoto_ret]
   go_ret
   exact ⟨_, rfl, G.out, by rw [HR.out]; rfl⟩
  ·have HR := Lib.hid (show domsM M 2 = (M.racks.length : Int) by simp [domsM])
   subst h
   have HM := Lib.hid hm
   have B := Cells.new w (mcells P M) 29
   clear hm
   have m0 := mc0 B.2 _ (Gr.refl _)
   have m1 := mc1 B.2 _ (Gr.refl _)
   have m2 := mc2 B.2 _ (Gr.refl _)
   have m3 := mc3 B.2 _ (Gr.refl _)
   have m4 := mc4 B.2 _ (Gr.refl _)
   have m5 := mc5 B.2 _ (Gr.refl _)
   have m6 := mc6 B.2 _ (Gr.refl _)
   have m7 := mc7 B.2 _ (Gr.refl _)
   have m8 := mc8 B.2 _ (Gr.refl _)
   have m9 := mc9 B.2 _ (Gr.refl _)
   have m10 := mc10 B.2 _ (Gr.refl _)
   unfold mcells at B m0 m1 m2 m3 m4 m5 m6 m7 m8 m9 m10 ⊢
   go_enter Tryz.func87, Tryz.ntmps87
   go_wp2_with fail
   clear m0 m1 m2 m3 m4 m5 m6 m7 m8 m9 m10
   generalize w.heap.size = bm at B ⊢
   generalize w.alloc _ = W at B ⊢
   obtain ⟨g0, tm⟩ := B
   have TM := Lib.hid (show Cells W bm (mcells P M) from tm)
   have G := Lib.hid g0
   have HM := Lib.hid (HM.out.grow g0)
   clear g0 tm
   have m0 := mc0 TM.out _ (Gr.refl _)
   have m1 := mc1 TM.out _ (Gr.refl _)
   have m2 := mc2 TM.out _ (Gr.refl _)
   have m3 := mc3 TM.out _ (Gr.refl _)
   have m4 := mc4 TM.out _ (Gr.refl _)
   have m5 := mc5 TM.out _ (Gr.refl _)
   have m6 := mc6 TM.out _ (Gr.refl _)
   have m7 := mc7 TM.out _ (Gr.refl _)
   have m8 := mc8 TM.out _ (Gr.refl _)
   have m9 := mc9 TM.out _ (Gr.refl _)
   have m10 := mc10 TM.out _ (Gr.refl _)
   try rw [Exit.noGoto_ret]
   go_ret
   exact ⟨_, rfl, G.out, by rw [HR.out]; rfl⟩
  ·have HR := Lib.hid (show domsM M 3 = (M.feeds.length : Int) by simp [domsM])
   subst h
   have HM := Lib.hid hm
   have B := Cells.new w (mcells P M) 29
   clear hm
   have m0 := mc0 B.2 _ (Gr.refl _)
   have m1 := mc1 B.2 _ (Gr.refl _)
   have m2 := mc2 B.2 _ (Gr.refl _)
   have m3 := mc3 B.2 _ (Gr.refl _)
   have m4 := mc4 B.2 _ (Gr.refl _)
   have m5 := mc5 B.2 _ (Gr.refl _)
   have m6 := mc6 B.2 _ (Gr.refl _)
   have m7 := mc7 B.2 _ (Gr.refl _)
   have m8 := mc8 B.2 _ (Gr.refl _)
   have m9 := mc9 B.2 _ (Gr.refl _)
   have m10 := mc10 B.2 _ (Gr.refl _)
   unfold mcells at B m0 m1 m2 m3 m4 m5 m6 m7 m8 m9 m10 ⊢
   go_enter Tryz.func87, Tryz.ntmps87
   go_wp2_with fail
   clear m0 m1 m2 m3 m4 m5 m6 m7 m8 m9 m10
   generalize w.heap.size = bm at B ⊢
   generalize w.alloc _ = W at B ⊢
   obtain ⟨g0, tm⟩ := B
   have TM := Lib.hid (show Cells W bm (mcells P M) from tm)
   have G := Lib.hid g0
   have HM := Lib.hid (HM.out.grow g0)
   clear g0 tm
   have m0 := mc0 TM.out _ (Gr.refl _)
   have m1 := mc1 TM.out _ (Gr.refl _)
   have m2 := mc2 TM.out _ (Gr.refl _)
   have m3 := mc3 TM.out _ (Gr.refl _)
   have m4 := mc4 TM.out _ (Gr.refl _)
   have m5 := mc5 TM.out _ (Gr.refl _)
   have m6 := mc6 TM.out _ (Gr.refl _)
   have m7 := mc7 TM.out _ (Gr.refl _)
   have m8 := mc8 TM.out _ (Gr.refl _)
   have m9 := mc9 TM.out _ (Gr.refl _)
   have m10 := mc10 TM.out _ (Gr.refl _)
   try rw [Exit.noGoto_ret]
   go_ret
   exact ⟨_, rfl, G.out, by rw [HR.out]; rfl⟩
  ·have HR := Lib.hid (show domsM M 4 = (M.sites.length : Int) by simp [domsM])
   subst h
   have HM := Lib.hid hm
   have B := Cells.new w (mcells P M) 29
   clear hm
   have m0 := mc0 B.2 _ (Gr.refl _)
   have m1 := mc1 B.2 _ (Gr.refl _)
   have m2 := mc2 B.2 _ (Gr.refl _)
   have m3 := mc3 B.2 _ (Gr.refl _)
   have m4 := mc4 B.2 _ (Gr.refl _)
   have m5 := mc5 B.2 _ (Gr.refl _)
   have m6 := mc6 B.2 _ (Gr.refl _)
   have m7 := mc7 B.2 _ (Gr.refl _)
   have m8 := mc8 B.2 _ (Gr.refl _)
   have m9 := mc9 B.2 _ (Gr.refl _)
   have m10 := mc10 B.2 _ (Gr.refl _)
   unfold mcells at B m0 m1 m2 m3 m4 m5 m6 m7 m8 m9 m10 ⊢
   go_enter Tryz.func87, Tryz.ntmps87
   go_wp2_with fail
   clear m0 m1 m2 m3 m4 m5 m6 m7 m8 m9 m10
   generalize w.heap.size = bm at B ⊢
   generalize w.alloc _ = W at B ⊢
   obtain ⟨g0, tm⟩ := B
   have TM := Lib.hid (show Cells W bm (mcells P M) from tm)
   have G := Lib.hid g0
   have HM := Lib.hid (HM.out.grow g0)
   clear g0 tm
   have m0 := mc0 TM.out _ (Gr.refl _)
   have m1 := mc1 TM.out _ (Gr.refl _)
   have m2 := mc2 TM.out _ (Gr.refl _)
   have m3 := mc3 TM.out _ (Gr.refl _)
   have m4 := mc4 TM.out _ (Gr.refl _)
   have m5 := mc5 TM.out _ (Gr.refl _)
   have m6 := mc6 TM.out _ (Gr.refl _)
   have m7 := mc7 TM.out _ (Gr.refl _)
   have m8 := mc8 TM.out _ (Gr.refl _)
   have m9 := mc9 TM.out _ (Gr.refl _)
   have m10 := mc10 TM.out _ (Gr.refl _)
   try rw [Exit.noGoto_ret]
   go_ret
   exact ⟨_, rfl, G.out, by rw [HR.out]; rfl⟩
 ·have e0 : (k == 1) = false := by simp; omega
  have e1 : (k == 2) = false := by simp; omega
  have e2 : (k == 3) = false := by simp; omega
  have e3 : (k == 4) = false := by simp; omega
  have HR := Lib.hid (dom_zero M hk)
  have HM := Lib.hid hm
  have B := Cells.new w (mcells P M) 29
  clear hm
  have m0 := mc0 B.2 _ (Gr.refl _)
  have m1 := mc1 B.2 _ (Gr.refl _)
  have m2 := mc2 B.2 _ (Gr.refl _)
  have m3 := mc3 B.2 _ (Gr.refl _)
  have m4 := mc4 B.2 _ (Gr.refl _)
  have m5 := mc5 B.2 _ (Gr.refl _)
  have m6 := mc6 B.2 _ (Gr.refl _)
  have m7 := mc7 B.2 _ (Gr.refl _)
  have m8 := mc8 B.2 _ (Gr.refl _)
  have m9 := mc9 B.2 _ (Gr.refl _)
  have m10 := mc10 B.2 _ (Gr.refl _)
  unfold mcells at B m0 m1 m2 m3 m4 m5 m6 m7 m8 m9 m10 ⊢
  go_enter Tryz.func87, Tryz.ntmps87
  go_wp2_with fail
  clear m0 m1 m2 m3 m4 m5 m6 m7 m8 m9 m10
  generalize w.heap.size = bm at B ⊢
  generalize w.alloc _ = W at B ⊢
  obtain ⟨g0, tm⟩ := B
  have TM := Lib.hid (show Cells W bm (mcells P M) from tm)
  have G := Lib.hid g0
  have HM := Lib.hid (HM.out.grow g0)
  clear g0 tm
  have m0 := mc0 TM.out _ (Gr.refl _)
  have m1 := mc1 TM.out _ (Gr.refl _)
  have m2 := mc2 TM.out _ (Gr.refl _)
  have m3 := mc3 TM.out _ (Gr.refl _)
  have m4 := mc4 TM.out _ (Gr.refl _)
  have m5 := mc5 TM.out _ (Gr.refl _)
  have m6 := mc6 TM.out _ (Gr.refl _)
  have m7 := mc7 TM.out _ (Gr.refl _)
  have m8 := mc8 TM.out _ (Gr.refl _)
  have m9 := mc9 TM.out _ (Gr.refl _)
  have m10 := mc10 TM.out _ (Gr.refl _)
  try rw [Exit.noGoto_ret]
  go_ret
  exact ⟨_, rfl, G.out, by rw [HR.out]; rfl⟩
set_option maxRecDepth 100000 in
set_option maxHeartbeats 1600000 in
theorem rdom_2 (w : World) (P : Ptrs) (M : Mdl) (n : Int) (hm : MdlAt w P M) (hf : Few M) : Calls Tryz.prog 85 #[.agg (mcells P M), .int .i64 2, .int .i64 n] w (Ret w fun r _ => r = .int .i64 (domainM M 2 n)) := by
 have HF := Lib.hid hf
 clear hf
 have HM := Lib.hid hm
 have B := Cells.new w (mcells P M) 29
 clear hm
 have m0 := mc0 B.2 _ (Gr.refl _)
 have m1 := mc1 B.2 _ (Gr.refl _)
 have m2 := mc2 B.2 _ (Gr.refl _)
 have m3 := mc3 B.2 _ (Gr.refl _)
 have m4 := mc4 B.2 _ (Gr.refl _)
 have m5 := mc5 B.2 _ (Gr.refl _)
 have m6 := mc6 B.2 _ (Gr.refl _)
 have m7 := mc7 B.2 _ (Gr.refl _)
 have m8 := mc8 B.2 _ (Gr.refl _)
 have m9 := mc9 B.2 _ (Gr.refl _)
 have m10 := mc10 B.2 _ (Gr.refl _)
 unfold mcells at B m0 m1 m2 m3 m4 m5 m6 m7 m8 m9 m10 ⊢
 go_enter Tryz.func85, Tryz.ntmps85
 go_wp2_with fail
 clear m0 m1 m2 m3 m4 m5 m6 m7 m8 m9 m10
 generalize w.heap.size = bm at B ⊢
 generalize w.alloc _ = W at B ⊢
 obtain ⟨g0, tm⟩ := B
 have TM := Lib.hid (show Cells W bm (mcells P M) from tm)
 have G := Lib.hid g0
 have HM := Lib.hid (HM.out.grow g0)
 clear g0 tm
 have m0 := mc0 TM.out _ (Gr.refl _)
 have m1 := mc1 TM.out _ (Gr.refl _)
 have m2 := mc2 TM.out _ (Gr.refl _)
 have m3 := mc3 TM.out _ (Gr.refl _)
 have m4 := mc4 TM.out _ (Gr.refl _)
 have m5 := mc5 TM.out _ (Gr.refl _)
 have m6 := mc6 TM.out _ (Gr.refl _)
 have m7 := mc7 TM.out _ (Gr.refl _)
 have m8 := mc8 TM.out _ (Gr.refl _)
 have m9 := mc9 TM.out _ (Gr.refl _)
 have m10 := mc10 TM.out _ (Gr.refl _)
 refine (ref_Exists _ _ _).mono ?_
 rintro _ _ ⟨⟨v1, rfl, h1⟩, rfl⟩
 rcases h1.cases with ⟨rfl, k1⟩ | ⟨rfl, k1⟩
 ·obtain ⟨k, rfl⟩ : ∃ k : Nat, n = (k : Int) + 1 := ⟨(n - 1).toNat, by omega⟩
  have hlt : k < M.machs.length := by omega
  have hfew := HF.out.1
  obtain ⟨b1, o1, x, hp1, hx, hc1⟩ := mach_at HM.out.machs rfl hlt
  have hev := dom_eval (K := 2) hx
  have c1 := (hc1 _ (Gr.refl _)).2.1
  have hw1 : IntKind.i64.wrap ((k : Int) + 1 - 1) = (k : Int) := by rw [IntKind.wrap_i64]; omega
  have q3 := m3
  rw [hp1] at q3
  clear m3
  have hlt' : (k : Int) < (M.machs.length : Int) := by omega
  clear h1 k1 hx hc1
  go_wp2_with fail
  refine (ref_Exists _ _ _).mono ?_
  rintro _ _ ⟨⟨v2, rfl, h2⟩, rfl⟩
  rcases h2.cases with ⟨rfl, k2⟩ | ⟨rfl, k2⟩
  ·obtain ⟨r, hr⟩ : ∃ r : Nat, x.rack = (r : Int) + 1 := ⟨(x.rack - 1).toNat, by omega⟩
   rw [hr] at k2 hev
   have hrl : r < M.racks.length := by omega
   obtain ⟨b2, o2, y, hp2, hy, hc2⟩ := rack_at HM.out.racks rfl hrl
   rw [rack_eval hy] at hev
   have HEV := Lib.hid (show domainM M 2 ((k : Int) + 1) = if 1 ≤ ((r : Int) + 1) ∧ ((r : Int) + 1) ≤ domsM M 2 then ((r : Int) + 1) else 0 from by rw [hev]; simp)
   have y1 := (hc2 _ (Gr.refl _)).2.1
   have y2 := (hc2 _ (Gr.refl _)).2.2
   have hw2 : IntKind.i64.wrap ((r : Int) + 1 - 1) = (r : Int) := by rw [IntKind.wrap_i64]; omega
   have q2 := m2
   rw [hp2] at q2
   rw [hr]
   have hrl' : (r : Int) < (M.racks.length : Int) := by omega
   have q2' := m2
   clear h2 hev hy hc2 k2 m2 q2'
   go_wp2_with fail
   have hcall := ref_Domains14 W P M 2 HM.out
   unfold mcells at hcall
   rw [hp1, hp2] at hcall
   refine hcall.mono ?_
   clear hcall
   rintro _ w5 ⟨_, rfl, g5, rfl⟩
   have G := Lib.hid (G.out.trans g5)
   clear m0 m1 m4 m5 m6 m7 m8 m9 m10 q3 q2 c1 y1 y2 g5
   go_wp2_with fail
   refine (ref_Exists _ _ _).mono ?_
   rintro _ _ ⟨⟨v3, rfl, h3⟩, rfl⟩
   rcases h3.cases with ⟨rfl, k3⟩ | ⟨rfl, k3⟩
   ·have H3 := Lib.hid k3
    clear k3 h3
    go_wp2_with fail
    try rw [Exit.noGoto_ret]
    go_ret
    exact ⟨_, rfl, G.out, by rw [HEV.out, if_pos H3.out]; rfl⟩
   ·have H3 := Lib.hid k3
    clear k3 h3
    go_wp2_with fail
    try rw [Exit.noGoto_ret]
    go_ret
    exact ⟨_, rfl, G.out, by rw [HEV.out, if_neg H3.out]; rfl⟩
  ·have HE := Lib.hid (show domainM M 2 ((k : Int) + 1) = 0 from by rw [hev, rack_none k2]; simp)
   clear h2 hev
   go_wp2_with fail
   try rw [Exit.noGoto_ret]
   go_ret
   exact ⟨_, rfl, G.out, by rw [HE.out]; rfl⟩
 ·have HE := Lib.hid (show domainM M 2 n = 0 from by unfold domainM; rw [if_neg k1])
  go_wp2_with fail
  try rw [Exit.noGoto_ret]
  go_ret
  exact ⟨_, rfl, G.out, by rw [HE.out]; rfl⟩
set_option maxRecDepth 100000 in
set_option maxHeartbeats 1600000 in
theorem rdom_3 (w : World) (P : Ptrs) (M : Mdl) (n : Int) (hm : MdlAt w P M) (hf : Few M) : Calls Tryz.prog 85 #[.agg (mcells P M), .int .i64 3, .int .i64 n] w (Ret w fun r _ => r = .int .i64 (domainM M 3 n)) := by
 have HF := Lib.hid hf
 clear hf
 have HM := Lib.hid hm
 have B := Cells.new w (mcells P M) 29
 clear hm
 have m0 := mc0 B.2 _ (Gr.refl _)
 have m1 := mc1 B.2 _ (Gr.refl _)
 have m2 := mc2 B.2 _ (Gr.refl _)
 have m3 := mc3 B.2 _ (Gr.refl _)
 have m4 := mc4 B.2 _ (Gr.refl _)
 have m5 := mc5 B.2 _ (Gr.refl _)
 have m6 := mc6 B.2 _ (Gr.refl _)
 have m7 := mc7 B.2 _ (Gr.refl _)
 have m8 := mc8 B.2 _ (Gr.refl _)
 have m9 := mc9 B.2 _ (Gr.refl _)
 have m10 := mc10 B.2 _ (Gr.refl _)
 unfold mcells at B m0 m1 m2 m3 m4 m5 m6 m7 m8 m9 m10 ⊢
 go_enter Tryz.func85, Tryz.ntmps85
 go_wp2_with fail
 clear m0 m1 m2 m3 m4 m5 m6 m7 m8 m9 m10
 generalize w.heap.size = bm at B ⊢
 generalize w.alloc _ = W at B ⊢
 obtain ⟨g0, tm⟩ := B
 have TM := Lib.hid (show Cells W bm (mcells P M) from tm)
 have G := Lib.hid g0
 have HM := Lib.hid (HM.out.grow g0)
 clear g0 tm
 have m0 := mc0 TM.out _ (Gr.refl _)
 have m1 := mc1 TM.out _ (Gr.refl _)
 have m2 := mc2 TM.out _ (Gr.refl _)
 have m3 := mc3 TM.out _ (Gr.refl _)
 have m4 := mc4 TM.out _ (Gr.refl _)
 have m5 := mc5 TM.out _ (Gr.refl _)
 have m6 := mc6 TM.out _ (Gr.refl _)
 have m7 := mc7 TM.out _ (Gr.refl _)
 have m8 := mc8 TM.out _ (Gr.refl _)
 have m9 := mc9 TM.out _ (Gr.refl _)
 have m10 := mc10 TM.out _ (Gr.refl _)
 refine (ref_Exists _ _ _).mono ?_
 rintro _ _ ⟨⟨v1, rfl, h1⟩, rfl⟩
 rcases h1.cases with ⟨rfl, k1⟩ | ⟨rfl, k1⟩
 ·obtain ⟨k, rfl⟩ : ∃ k : Nat, n = (k : Int) + 1 := ⟨(n - 1).toNat, by omega⟩
  have hlt : k < M.machs.length := by omega
  have hfew := HF.out.1
  obtain ⟨b1, o1, x, hp1, hx, hc1⟩ := mach_at HM.out.machs rfl hlt
  have hev := dom_eval (K := 3) hx
  have c1 := (hc1 _ (Gr.refl _)).2.1
  have hw1 : IntKind.i64.wrap ((k : Int) + 1 - 1) = (k : Int) := by rw [IntKind.wrap_i64]; omega
  have q3 := m3
  rw [hp1] at q3
  clear m3
  have hlt' : (k : Int) < (M.machs.length : Int) := by omega
  clear h1 k1 hx hc1
  go_wp2_with fail
  refine (ref_Exists _ _ _).mono ?_
  rintro _ _ ⟨⟨v2, rfl, h2⟩, rfl⟩
  rcases h2.cases with ⟨rfl, k2⟩ | ⟨rfl, k2⟩
  ·obtain ⟨r, hr⟩ : ∃ r : Nat, x.rack = (r : Int) + 1 := ⟨(x.rack - 1).toNat, by omega⟩
   rw [hr] at k2 hev
   have hrl : r < M.racks.length := by omega
   obtain ⟨b2, o2, y, hp2, hy, hc2⟩ := rack_at HM.out.racks rfl hrl
   rw [rack_eval hy] at hev
   have HEV := Lib.hid (show domainM M 3 ((k : Int) + 1) = if 1 ≤ (y.feed) ∧ (y.feed) ≤ domsM M 3 then (y.feed) else 0 from by rw [hev]; simp)
   have y1 := (hc2 _ (Gr.refl _)).2.1
   have y2 := (hc2 _ (Gr.refl _)).2.2
   have hw2 : IntKind.i64.wrap ((r : Int) + 1 - 1) = (r : Int) := by rw [IntKind.wrap_i64]; omega
   have q2 := m2
   rw [hp2] at q2
   rw [hr]
   have hrl' : (r : Int) < (M.racks.length : Int) := by omega
   have q2' := m2
   clear h2 hev hy hc2 k2 m2 q2'
   go_wp2_with fail
   have hcall := ref_Domains14 W P M 3 HM.out
   unfold mcells at hcall
   rw [hp1, hp2] at hcall
   refine hcall.mono ?_
   clear hcall
   rintro _ w5 ⟨_, rfl, g5, rfl⟩
   have G := Lib.hid (G.out.trans g5)
   clear m0 m1 m4 m5 m6 m7 m8 m9 m10 q3 q2 c1 y1 y2 g5
   go_wp2_with fail
   refine (ref_Exists _ _ _).mono ?_
   rintro _ _ ⟨⟨v3, rfl, h3⟩, rfl⟩
   rcases h3.cases with ⟨rfl, k3⟩ | ⟨rfl, k3⟩
   ·have H3 := Lib.hid k3
    clear k3 h3
    go_wp2_with fail
    try rw [Exit.noGoto_ret]
    go_ret
    exact ⟨_, rfl, G.out, by rw [HEV.out, if_pos H3.out]; rfl⟩
   ·have H3 := Lib.hid k3
    clear k3 h3
    go_wp2_with fail
    try rw [Exit.noGoto_ret]
    go_ret
    exact ⟨_, rfl, G.out, by rw [HEV.out, if_neg H3.out]; rfl⟩
  ·have HE := Lib.hid (show domainM M 3 ((k : Int) + 1) = 0 from by rw [hev, rack_none k2]; simp)
   clear h2 hev
   go_wp2_with fail
   try rw [Exit.noGoto_ret]
   go_ret
   exact ⟨_, rfl, G.out, by rw [HE.out]; rfl⟩
 ·have HE := Lib.hid (show domainM M 3 n = 0 from by unfold domainM; rw [if_neg k1])
  go_wp2_with fail
  try rw [Exit.noGoto_ret]
  go_ret
  exact ⟨_, rfl, G.out, by rw [HE.out]; rfl⟩
set_option maxRecDepth 100000 in
set_option maxHeartbeats 1600000 in
theorem rdom_4 (w : World) (P : Ptrs) (M : Mdl) (n : Int) (hm : MdlAt w P M) (hf : Few M) : Calls Tryz.prog 85 #[.agg (mcells P M), .int .i64 4, .int .i64 n] w (Ret w fun r _ => r = .int .i64 (domainM M 4 n)) := by
 have HF := Lib.hid hf
 clear hf
 have HM := Lib.hid hm
 have B := Cells.new w (mcells P M) 29
 clear hm
 have m0 := mc0 B.2 _ (Gr.refl _)
 have m1 := mc1 B.2 _ (Gr.refl _)
 have m2 := mc2 B.2 _ (Gr.refl _)
 have m3 := mc3 B.2 _ (Gr.refl _)
 have m4 := mc4 B.2 _ (Gr.refl _)
 have m5 := mc5 B.2 _ (Gr.refl _)
 have m6 := mc6 B.2 _ (Gr.refl _)
 have m7 := mc7 B.2 _ (Gr.refl _)
 have m8 := mc8 B.2 _ (Gr.refl _)
 have m9 := mc9 B.2 _ (Gr.refl _)
 have m10 := mc10 B.2 _ (Gr.refl _)
 unfold mcells at B m0 m1 m2 m3 m4 m5 m6 m7 m8 m9 m10 ⊢
 go_enter Tryz.func85, Tryz.ntmps85
 go_wp2_with fail
 clear m0 m1 m2 m3 m4 m5 m6 m7 m8 m9 m10
 generalize w.heap.size = bm at B ⊢
 generalize w.alloc _ = W at B ⊢
 obtain ⟨g0, tm⟩ := B
 have TM := Lib.hid (show Cells W bm (mcells P M) from tm)
 have G := Lib.hid g0
 have HM := Lib.hid (HM.out.grow g0)
 clear g0 tm
 have m0 := mc0 TM.out _ (Gr.refl _)
 have m1 := mc1 TM.out _ (Gr.refl _)
 have m2 := mc2 TM.out _ (Gr.refl _)
 have m3 := mc3 TM.out _ (Gr.refl _)
 have m4 := mc4 TM.out _ (Gr.refl _)
 have m5 := mc5 TM.out _ (Gr.refl _)
 have m6 := mc6 TM.out _ (Gr.refl _)
 have m7 := mc7 TM.out _ (Gr.refl _)
 have m8 := mc8 TM.out _ (Gr.refl _)
 have m9 := mc9 TM.out _ (Gr.refl _)
 have m10 := mc10 TM.out _ (Gr.refl _)
 refine (ref_Exists _ _ _).mono ?_
 rintro _ _ ⟨⟨v1, rfl, h1⟩, rfl⟩
 rcases h1.cases with ⟨rfl, k1⟩ | ⟨rfl, k1⟩
 ·obtain ⟨k, rfl⟩ : ∃ k : Nat, n = (k : Int) + 1 := ⟨(n - 1).toNat, by omega⟩
  have hlt : k < M.machs.length := by omega
  have hfew := HF.out.1
  obtain ⟨b1, o1, x, hp1, hx, hc1⟩ := mach_at HM.out.machs rfl hlt
  have hev := dom_eval (K := 4) hx
  have c1 := (hc1 _ (Gr.refl _)).2.1
  have hw1 : IntKind.i64.wrap ((k : Int) + 1 - 1) = (k : Int) := by rw [IntKind.wrap_i64]; omega
  have q3 := m3
  rw [hp1] at q3
  clear m3
  have hlt' : (k : Int) < (M.machs.length : Int) := by omega
  clear h1 k1 hx hc1
  go_wp2_with fail
  refine (ref_Exists _ _ _).mono ?_
  rintro _ _ ⟨⟨v2, rfl, h2⟩, rfl⟩
  rcases h2.cases with ⟨rfl, k2⟩ | ⟨rfl, k2⟩
  ·obtain ⟨r, hr⟩ : ∃ r : Nat, x.rack = (r : Int) + 1 := ⟨(x.rack - 1).toNat, by omega⟩
   rw [hr] at k2 hev
   have hrl : r < M.racks.length := by omega
   obtain ⟨b2, o2, y, hp2, hy, hc2⟩ := rack_at HM.out.racks rfl hrl
   rw [rack_eval hy] at hev
   have HEV := Lib.hid (show domainM M 4 ((k : Int) + 1) = if 1 ≤ (y.site) ∧ (y.site) ≤ domsM M 4 then (y.site) else 0 from by rw [hev]; simp)
   have y1 := (hc2 _ (Gr.refl _)).2.1
   have y2 := (hc2 _ (Gr.refl _)).2.2
   have hw2 : IntKind.i64.wrap ((r : Int) + 1 - 1) = (r : Int) := by rw [IntKind.wrap_i64]; omega
   have q2 := m2
   rw [hp2] at q2
   rw [hr]
   have hrl' : (r : Int) < (M.racks.length : Int) := by omega
   have q2' := m2
   clear h2 hev hy hc2 k2 m2 q2'
   go_wp2_with fail
   have hcall := ref_Domains14 W P M 4 HM.out
   unfold mcells at hcall
   rw [hp1, hp2] at hcall
   refine hcall.mono ?_
   clear hcall
   rintro _ w5 ⟨_, rfl, g5, rfl⟩
   have G := Lib.hid (G.out.trans g5)
   clear m0 m1 m4 m5 m6 m7 m8 m9 m10 q3 q2 c1 y1 y2 g5
   go_wp2_with fail
   refine (ref_Exists _ _ _).mono ?_
   rintro _ _ ⟨⟨v3, rfl, h3⟩, rfl⟩
   rcases h3.cases with ⟨rfl, k3⟩ | ⟨rfl, k3⟩
   ·have H3 := Lib.hid k3
    clear k3 h3
    go_wp2_with fail
    try rw [Exit.noGoto_ret]
    go_ret
    exact ⟨_, rfl, G.out, by rw [HEV.out, if_pos H3.out]; rfl⟩
   ·have H3 := Lib.hid k3
    clear k3 h3
    go_wp2_with fail
    try rw [Exit.noGoto_ret]
    go_ret
    exact ⟨_, rfl, G.out, by rw [HEV.out, if_neg H3.out]; rfl⟩
  ·have HE := Lib.hid (show domainM M 4 ((k : Int) + 1) = 0 from by rw [hev, rack_none k2]; simp)
   clear h2 hev
   go_wp2_with fail
   try rw [Exit.noGoto_ret]
   go_ret
   exact ⟨_, rfl, G.out, by rw [HE.out]; rfl⟩
 ·have HE := Lib.hid (show domainM M 4 n = 0 from by unfold domainM; rw [if_neg k1])
  go_wp2_with fail
  try rw [Exit.noGoto_ret]
  go_ret
  exact ⟨_, rfl, G.out, by rw [HE.out]; rfl⟩
set_option maxRecDepth 100000 in
theorem rdom_1 (w : World) (P : Ptrs) (M : Mdl) (n : Int) (hm : MdlAt w P M) : Calls Tryz.prog 85 #[.agg (mcells P M), .int .i64 1, .int .i64 n] w (Ret w fun r _ => r = .int .i64 (domainM M 1 n)) := by
 have HM := Lib.hid hm
 have B := Cells.new w (mcells P M) 29
 clear hm
 have m0 := mc0 B.2 _ (Gr.refl _)
 have m1 := mc1 B.2 _ (Gr.refl _)
 have m2 := mc2 B.2 _ (Gr.refl _)
 have m3 := mc3 B.2 _ (Gr.refl _)
 have m4 := mc4 B.2 _ (Gr.refl _)
 have m5 := mc5 B.2 _ (Gr.refl _)
 have m6 := mc6 B.2 _ (Gr.refl _)
 have m7 := mc7 B.2 _ (Gr.refl _)
 have m8 := mc8 B.2 _ (Gr.refl _)
 have m9 := mc9 B.2 _ (Gr.refl _)
 have m10 := mc10 B.2 _ (Gr.refl _)
 unfold mcells at B m0 m1 m2 m3 m4 m5 m6 m7 m8 m9 m10 ⊢
 go_enter Tryz.func85, Tryz.ntmps85
 go_wp2_with fail
 clear m0 m1 m2 m3 m4 m5 m6 m7 m8 m9 m10
 generalize w.heap.size = bm at B ⊢
 generalize w.alloc _ = W at B ⊢
 obtain ⟨g0, tm⟩ := B
 have TM := Lib.hid (show Cells W bm (mcells P M) from tm)
 have G := Lib.hid g0
 have HM := Lib.hid (HM.out.grow g0)
 clear g0 tm
 have m0 := mc0 TM.out _ (Gr.refl _)
 have m1 := mc1 TM.out _ (Gr.refl _)
 have m2 := mc2 TM.out _ (Gr.refl _)
 have m3 := mc3 TM.out _ (Gr.refl _)
 have m4 := mc4 TM.out _ (Gr.refl _)
 have m5 := mc5 TM.out _ (Gr.refl _)
 have m6 := mc6 TM.out _ (Gr.refl _)
 have m7 := mc7 TM.out _ (Gr.refl _)
 have m8 := mc8 TM.out _ (Gr.refl _)
 have m9 := mc9 TM.out _ (Gr.refl _)
 have m10 := mc10 TM.out _ (Gr.refl _)
 refine (ref_Exists _ _ _).mono ?_
 rintro _ _ ⟨⟨v1, rfl, h1⟩, rfl⟩
 rcases h1.cases with ⟨rfl, k1⟩ | ⟨rfl, k1⟩
 ·have hx := List.getElem?_eq_getElem (l := M.machs) (i := (n - 1).toNat) (by have := k1.1; have := k1.2; omega)
  have HEV := Lib.hid (show domainM M 1 n = n from by
   have hdm : domsM M 1 = (M.machs.length : Int) := by simp [domsM]
   unfold domainM
   rw [if_pos k1, hx, hdm]
   simp only [if_true]
   rw [if_pos k1])
  have K1 := Lib.hid k1
  clear h1 k1 hx
  go_wp2_with fail
  refine (ref_Domains14 W P M 1 HM.out).mono ?_
  rintro _ w5 ⟨_, rfl, g5, rfl⟩
  have G := Lib.hid (G.out.trans g5)
  rw [show domsM M 1 = (M.machs.length : Int) by simp [domsM]]
  clear m0 m1 m2 m3 m4 m5 m6 m7 m8 m9 m10
  clear g5
  go_wp2_with fail
  refine (ref_Exists _ _ _).mono ?_
  rintro _ _ ⟨⟨v3, rfl, h3⟩, rfl⟩
  rcases h3.cases with ⟨rfl, k3⟩ | ⟨rfl, k3⟩
  ·clear h3 k3
   go_wp2_with fail
   try rw [Exit.noGoto_ret]
   go_ret
   exact ⟨_, rfl, G.out, by rw [HEV.out]; rfl⟩
  ·exact absurd K1.out k3
 ·have HE := Lib.hid (show domainM M 1 n = 0 from by unfold domainM; rw [if_neg k1])
  go_wp2_with fail
  try rw [Exit.noGoto_ret]
  go_ret
  exact ⟨_, rfl, G.out, by rw [HE.out]; rfl⟩
set_option maxRecDepth 100000 in
set_option maxHeartbeats 1600000 in
theorem rdom_else (w : World) (P : Ptrs) (M : Mdl) (k0 n : Int) (hm : MdlAt w P M) (hf : Few M) (hk : ¬ (1 ≤ k0 ∧ k0 ≤ 4)) : Calls Tryz.prog 85 #[.agg (mcells P M), .int .i64 k0, .int .i64 n] w (Ret w fun r _ => r = .int .i64 (domainM M k0 n)) := by
 have HZ := Lib.hid (domain_zero M hk n)
 have HD := Lib.hid (dom_zero M hk)
 have HF := Lib.hid hf
 have e0 : (k0 != 1) = true := by simp; omega
 have e2 : (k0 == 3) = false := by simp; omega
 have e3 : (k0 == 4) = false := by simp; omega
 clear hk hf
 have HM := Lib.hid hm
 have B := Cells.new w (mcells P M) 29
 clear hm
 have m0 := mc0 B.2 _ (Gr.refl _)
 have m1 := mc1 B.2 _ (Gr.refl _)
 have m2 := mc2 B.2 _ (Gr.refl _)
 have m3 := mc3 B.2 _ (Gr.refl _)
 have m4 := mc4 B.2 _ (Gr.refl _)
 have m5 := mc5 B.2 _ (Gr.refl _)
 have m6 := mc6 B.2 _ (Gr.refl _)
 have m7 := mc7 B.2 _ (Gr.refl _)
 have m8 := mc8 B.2 _ (Gr.refl _)
 have m9 := mc9 B.2 _ (Gr.refl _)
 have m10 := mc10 B.2 _ (Gr.refl _)
 unfold mcells at B m0 m1 m2 m3 m4 m5 m6 m7 m8 m9 m10 ⊢
 go_enter Tryz.func85, Tryz.ntmps85
 go_wp2_with fail
 clear m0 m1 m2 m3 m4 m5 m6 m7 m8 m9 m10
 generalize w.heap.size = bm at B ⊢
 generalize w.alloc _ = W at B ⊢
 obtain ⟨g0, tm⟩ := B
 have TM := Lib.hid (show Cells W bm (mcells P M) from tm)
 have G := Lib.hid g0
 have HM := Lib.hid (HM.out.grow g0)
 clear g0 tm
 have m0 := mc0 TM.out _ (Gr.refl _)
 have m1 := mc1 TM.out _ (Gr.refl _)
 have m2 := mc2 TM.out _ (Gr.refl _)
 have m3 := mc3 TM.out _ (Gr.refl _)
 have m4 := mc4 TM.out _ (Gr.refl _)
 have m5 := mc5 TM.out _ (Gr.refl _)
 have m6 := mc6 TM.out _ (Gr.refl _)
 have m7 := mc7 TM.out _ (Gr.refl _)
 have m8 := mc8 TM.out _ (Gr.refl _)
 have m9 := mc9 TM.out _ (Gr.refl _)
 have m10 := mc10 TM.out _ (Gr.refl _)
 refine (ref_Exists _ _ _).mono ?_
 rintro _ _ ⟨⟨v1, rfl, h1⟩, rfl⟩
 rcases h1.cases with ⟨rfl, k1⟩ | ⟨rfl, k1⟩
 ·obtain ⟨k, rfl⟩ : ∃ k : Nat, n = (k : Int) + 1 := ⟨(n - 1).toNat, by omega⟩
  have hlt : k < M.machs.length := by omega
  have hfew := HF.out.1
  obtain ⟨b1, o1, x, hp1, hx, hc1⟩ := mach_at HM.out.machs rfl hlt
  have c1 := (hc1 _ (Gr.refl _)).2.1
  have hw1 : IntKind.i64.wrap ((k : Int) + 1 - 1) = (k : Int) := by rw [IntKind.wrap_i64]; omega
  have q3 := m3
  rw [hp1] at q3
  clear m3
  have hlt' : (k : Int) < (M.machs.length : Int) := by omega
  clear h1 k1 hx hc1
  go_wp2_with fail
  refine (ref_Exists _ _ _).mono ?_
  rintro _ _ ⟨⟨v2, rfl, h2⟩, rfl⟩
  rcases h2.cases with ⟨rfl, k2⟩ | ⟨rfl, k2⟩
  ·clear h2 k2
   go_wp2_with fail
   have hcall := ref_Domains14 W P M k0 HM.out
   unfold mcells at hcall
   rw [hp1] at hcall
   refine hcall.mono ?_
   clear hcall
   rintro _ w5 ⟨_, rfl, g5, rfl⟩
   have G := Lib.hid (G.out.trans g5)
   rw [HD.out]
   clear m0 m1 m2 m4 m5 m6 m7 m8 m9 m10 q3 c1 g5
   go_wp2_with fail
   refine (ref_Exists _ _ _).mono ?_
   rintro _ _ ⟨⟨v3, rfl, h3⟩, rfl⟩
   rcases h3.cases with ⟨rfl, k3⟩ | ⟨rfl, k3⟩
   ·exact absurd k3 (by omega)
   ·clear k3 h3
    go_wp2_with fail
    try rw [Exit.noGoto_ret]
    go_ret
    exact ⟨_, rfl, G.out, by rw [HZ.out]; rfl⟩
  ·clear h2 k2
   go_wp2_with fail
   try rw [Exit.noGoto_ret]
   go_ret
   exact ⟨_, rfl, G.out, by rw [HZ.out]; rfl⟩
 ·clear k1 h1
  go_wp2_with fail
  try rw [Exit.noGoto_ret]
  go_ret
  exact ⟨_, rfl, G.out, by rw [HZ.out]; rfl⟩
theorem ref_Domain14 (w : World) (P : Ptrs) (M : Mdl) (k n : Int) (hm : MdlAt w P M) (hf : Few M) : Calls Tryz.prog 85 #[.agg (mcells P M), .int .i64 k, .int .i64 n] w (Ret w fun r _ => r = .int .i64 (domainM M k n)) := by
 by_cases hk : 1 ≤ k ∧ k ≤ 4
 ·obtain h | h | h | h : k = 1 ∨ k = 2 ∨ k = 3 ∨ k = 4 := by omega
  ·subst h; exact rdom_1 w P M n hm
  ·subst h; exact rdom_2 w P M n hm hf
  ·subst h; exact rdom_3 w P M n hm hf
  ·subst h; exact rdom_4 w P M n hm hf
 ·exact rdom_else w P M k n hm hf hk
end Go.Proofs.YtchpbaaabnkkkaaGreatDoor

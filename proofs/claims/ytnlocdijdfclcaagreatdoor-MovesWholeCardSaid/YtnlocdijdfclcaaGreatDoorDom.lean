/-
  site.kinds, Domain, Link; exodusref14.Domains, Domain, Link.
  site.Domain.
  exodusref14.Domains, Domain (by site); site.Link, exodusref14.Link.
-/
import Derived.Test.YtnlocdijdfclcaaGreatDoorPlp
import Derived.Test.YtnlocdijdfclcaaGreatDoorMap
import Derived.Laws.EntriesVeiled
namespace Go.Proofs.YtnlocdijdfclcaaGreatDoor
open Go.RowKit Go.Lib Lex
set_option linter.unusedVariables false
set_option linter.unusedSimpArgs false

theorem int_keyK {n : Int} : MapKept.IsKey (.int .i64) (.int .i64 n) := by simp [MapKept.IsKey]
def kd (c : Int) (f : FuncId) : Value := .agg #[.int .i64 c, .func (.func f) #[] #[]]
def kindsL (M : Mdl) : List (Value × Value) := [(.int .i64 1, kd M.machs.length 173), (.int .i64 2, kd M.racks.length 174), (.int .i64 3, kd M.feeds.length 175), (.int .i64 4, kd M.sites.length 176)]
theorem site_kinds (w : World) (P : Ptrs) (M : Mdl) (hm : MdlAt w P M) : Calls Tryz.prog 168 #[.agg (mcells P M)] w (Ret w fun r w' => ∃ b, r = .map (some b) ∧ MapAt w' b (kindsL M)) := by
 have hmk := fun w => run_makeMap (P := Tryz.prog) 154 w
 have B := Cells.new w (mcells P M) 29
 have gm := fun o : Obj => Gr.alloc (Gr.refl (w.alloc (.cells (mcells P M) 29))) o
 have m0 := fun o => mc0 B.2 _ (gm o)
 have m1 := fun o => mc1 B.2 _ (gm o)
 have m2 := fun o => mc2 B.2 _ (gm o)
 have m3 := fun o => mc3 B.2 _ (gm o)
 have i0 := run_store_alloc (P := Tryz.prog) (w := w.alloc (.cells (mcells P M) 29)) (es := #[]) (c := 0) (t := 154) (key := .int .i64 1) (es' := #[⟨.int .i64 1, (.agg #[.int .i64 (M.machs.length : Int), .func (.func 173) #[] #[]]), 0⟩]) (.agg #[.int .i64 (M.machs.length : Int), .func (.func 173) #[] #[]]) Tryz.underlying154 Tryz.underlying3 int_keyK (by rfl) (by rfl)
 simp only [Nat.reduceAdd] at i0
 rw [World.size_alloc] at i0
 have i1 := run_store_alloc (P := Tryz.prog) (w := w.alloc (.cells (mcells P M) 29)) (es := #[⟨.int .i64 1, (.agg #[.int .i64 (M.machs.length : Int), .func (.func 173) #[] #[]]), 0⟩]) (c := 1) (t := 154) (key := .int .i64 2) (es' := #[⟨.int .i64 1, (.agg #[.int .i64 (M.machs.length : Int), .func (.func 173) #[] #[]]), 0⟩, ⟨.int .i64 2, (.agg #[.int .i64 (M.racks.length : Int), .func (.func 174) #[] #[]]), 1⟩]) (.agg #[.int .i64 (M.racks.length : Int), .func (.func 174) #[] #[]]) Tryz.underlying154 Tryz.underlying3 int_keyK (by rfl) (by rfl)
 simp only [Nat.reduceAdd] at i1
 rw [World.size_alloc] at i1
 have i2 := run_store_alloc (P := Tryz.prog) (w := w.alloc (.cells (mcells P M) 29)) (es := #[⟨.int .i64 1, (.agg #[.int .i64 (M.machs.length : Int), .func (.func 173) #[] #[]]), 0⟩, ⟨.int .i64 2, (.agg #[.int .i64 (M.racks.length : Int), .func (.func 174) #[] #[]]), 1⟩]) (c := 2) (t := 154) (key := .int .i64 3) (es' := #[⟨.int .i64 1, (.agg #[.int .i64 (M.machs.length : Int), .func (.func 173) #[] #[]]), 0⟩, ⟨.int .i64 2, (.agg #[.int .i64 (M.racks.length : Int), .func (.func 174) #[] #[]]), 1⟩, ⟨.int .i64 3, (.agg #[.int .i64 (M.feeds.length : Int), .func (.func 175) #[] #[]]), 2⟩]) (.agg #[.int .i64 (M.feeds.length : Int), .func (.func 175) #[] #[]]) Tryz.underlying154 Tryz.underlying3 int_keyK (by rfl) (by rfl)
 simp only [Nat.reduceAdd] at i2
 rw [World.size_alloc] at i2
 have i3 := run_store_alloc (P := Tryz.prog) (w := w.alloc (.cells (mcells P M) 29)) (es := #[⟨.int .i64 1, (.agg #[.int .i64 (M.machs.length : Int), .func (.func 173) #[] #[]]), 0⟩, ⟨.int .i64 2, (.agg #[.int .i64 (M.racks.length : Int), .func (.func 174) #[] #[]]), 1⟩, ⟨.int .i64 3, (.agg #[.int .i64 (M.feeds.length : Int), .func (.func 175) #[] #[]]), 2⟩]) (c := 3) (t := 154) (key := .int .i64 4) (es' := #[⟨.int .i64 1, (.agg #[.int .i64 (M.machs.length : Int), .func (.func 173) #[] #[]]), 0⟩, ⟨.int .i64 2, (.agg #[.int .i64 (M.racks.length : Int), .func (.func 174) #[] #[]]), 1⟩, ⟨.int .i64 3, (.agg #[.int .i64 (M.feeds.length : Int), .func (.func 175) #[] #[]]), 2⟩, ⟨.int .i64 4, (.agg #[.int .i64 (M.sites.length : Int), .func (.func 176) #[] #[]]), 3⟩]) (.agg #[.int .i64 (M.sites.length : Int), .func (.func 176) #[] #[]]) Tryz.underlying154 Tryz.underlying3 int_keyK (by rfl) (by rfl)
 simp only [Nat.reduceAdd] at i3
 rw [World.size_alloc] at i3
 have H0 := Lib.hid B.1
 have HG := Lib.hid (show ∀ o, Gr _ _ from gm)
 clear B hm gm
 unfold mcells at *
 go_enter Tryz.func168, Tryz.ntmps168
 go_wp2_with fail
 go_ret
 refine ⟨_, rfl, H0.out.trans (HG.out _), _, rfl, _, _, by have := (MapKept.heap_alloc (w.alloc (.cells (mcells P M) 29)) (.map #[⟨.int .i64 1, (.agg #[.int .i64 (M.machs.length : Int), .func (.func 173) #[] #[]]), 0⟩, ⟨.int .i64 2, (.agg #[.int .i64 (M.racks.length : Int), .func (.func 174) #[] #[]]), 1⟩, ⟨.int .i64 3, (.agg #[.int .i64 (M.feeds.length : Int), .func (.func 175) #[] #[]]), 2⟩, ⟨.int .i64 4, (.agg #[.int .i64 (M.sites.length : Int), .func (.func 176) #[] #[]]), 3⟩] 4)).1; rw [World.size_alloc] at this; exact this, rfl⟩
end Go.Proofs.YtnlocdijdfclcaaGreatDoor
namespace Go.Proofs.YtnlocdijdfclcaaGreatDoor
open Go.RowKit Go.Lib Lex
set_option linter.unusedVariables false
set_option linter.unusedSimpArgs false

theorem dom_eval {M : Mdl} {K : Int} {k : Nat} {x : MachM} (hx : M.machs[k]? = some x) : domainM M K ((k : Int) + 1) = if 1 ≤ (if K = 1 then ((k : Int) + 1) else rackDom M K x.rack) ∧ (if K = 1 then ((k : Int) + 1) else rackDom M K x.rack) ≤ domsM M K then (if K = 1 then ((k : Int) + 1) else rackDom M K x.rack) else 0 := by
 have hl := (List.getElem?_eq_some_iff.1 hx).1
 unfold domainM
 rw [if_pos (by omega), show ((k : Int) + 1 - 1).toNat = k by omega, hx]
theorem rack_eval {M : Mdl} {K : Int} {k : Nat} {y : RackM} (hy : M.racks[k]? = some y) : rackDom M K ((k : Int) + 1) = if K = 3 then y.feed else if K = 4 then y.site else (k : Int) + 1 := by
 have hl := (List.getElem?_eq_some_iff.1 hy).1
 unfold rackDom
 rw [if_pos (by omega), show ((k : Int) + 1 - 1).toNat = k by omega, hy]
theorem rack_none {M : Mdl} {K r : Int} (h : ¬ (1 ≤ r ∧ r ≤ (M.racks.length : Int))) : rackDom M K r = 0 := by
 unfold rackDom
 rw [if_neg h]
def rackV (y : RackM) : Array Value := #[.string ⟨y.name.toArray⟩, .int .i64 y.site, .int .i64 y.feed]
theorem kind_4 (w : World) (n r : Int) (y : RackM) : Calls Tryz.prog 176 #[.int .i64 n, .agg (rackV y), .int .i64 r] w (Ret w fun v _ => v = .int .i64 (y.site)) := by
 have B := Cells.new w (rackV y) 56
 have d0 := B.2.at 0 rfl
 have d1 := B.2.at 1 rfl
 have d2 := B.2.at 2 rfl
 have G := Lib.hid B.1
 clear B
 unfold rackV at *
 go_enter Tryz.func176, Tryz.ntmps176
 go_wp2_with fail
 go_ret
 exact ⟨_, rfl, G.out, rfl⟩
set_option maxRecDepth 100000 in
set_option maxHeartbeats 1600000 in
theorem dom_4 (w : World) (P : Ptrs) (M : Mdl) (n : Int) (hm : MdlAt w P M) (hf : Few M) : Calls Tryz.prog 126 #[.agg (mcells P M), .int .i64 4, .int .i64 n] w (Ret w fun r _ => r = .int .i64 (domainM M 4 n)) := by
 have HF := Lib.hid hf
 clear hf
 have he : ∀ args w, (callFunc 176 args).run Tryz.prog w = .ok (.enter 176 args) w := enters_of Tryz.func176 (by kernel_rfl) rfl
 have HM := Lib.hid hm
 have B := Cells.new w (mcells P M) 29
 clear hm
 have m0 := mc0 B.2 _ (Gr.refl _)
 have m1 := mc1 B.2 _ (Gr.refl _)
 have m2 := mc2 B.2 _ (Gr.refl _)
 have m3 := mc3 B.2 _ (Gr.refl _)
 have m4 := mc4 B.2 _ (Gr.refl _)
 have m5 := mc5 B.2 _ (Gr.refl _)
 have m6 := mc6 B.2 _ (Gr.refl _)
 have m7 := mc7 B.2 _ (Gr.refl _)
 have m8 := mc8 B.2 _ (Gr.refl _)
 have m9 := mc9 B.2 _ (Gr.refl _)
 have m10 := mc10 B.2 _ (Gr.refl _)
 unfold mcells at B m0 m1 m2 m3 m4 m5 m6 m7 m8 m9 m10 ⊢
 go_enter Tryz.func126, Tryz.ntmps126
 go_wp2_with fail
 clear m0 m1 m2 m3 m4 m5 m6 m7 m8 m9 m10
 generalize w.heap.size = bm at B ⊢
 generalize w.alloc _ = W at B ⊢
 obtain ⟨g0, tm⟩ := B
 have TM := Lib.hid (show Cells W bm (mcells P M) from tm)
 have G := Lib.hid g0
 have HM := Lib.hid (HM.out.grow g0)
 clear g0 tm
 have m0 := mc0 TM.out _ (Gr.refl _)
 have m1 := mc1 TM.out _ (Gr.refl _)
 have m2 := mc2 TM.out _ (Gr.refl _)
 have m3 := mc3 TM.out _ (Gr.refl _)
 have m4 := mc4 TM.out _ (Gr.refl _)
 have m5 := mc5 TM.out _ (Gr.refl _)
 have m6 := mc6 TM.out _ (Gr.refl _)
 have m7 := mc7 TM.out _ (Gr.refl _)
 have m8 := mc8 TM.out _ (Gr.refl _)
 have m9 := mc9 TM.out _ (Gr.refl _)
 have m10 := mc10 TM.out _ (Gr.refl _)
 clear m0 m1 m2 m3 m4 m5 m6 m7 m8 m9 m10
 refine (site_kinds _ P M HM.out).mono ?_
 rintro _ w1 ⟨_, rfl, g1, b, rfl, hk⟩
 have G := Lib.hid (G.out.trans g1)
 have TM := Lib.hid (TM.out.grow g1)
 have HM := Lib.hid (HM.out.grow g1)
 clear g1
 have hl := (run_lookup_kv (P := Tryz.prog) hk Tryz.underlying154 Tryz.underlying3 (key := .int .i64 4) (v := .agg #[.int .i64 (M.sites.length : Int), .func (.func 176) #[] #[]]) int_keyK rfl).2
 have gA := fun o : Obj => Gr.alloc (Gr.refl w1) o
 have gB := fun o o' : Obj => Gr.alloc (Gr.alloc (Gr.refl w1) o) o'
 have n3 := fun o => mc3 TM.out _ (gA o)
 have n2 := fun o o' => mc2 TM.out _ (gB o o')
 go_wp2_with fail
 refine (site_exists _ _ _).mono ?_
 rintro _ _ ⟨⟨v1, rfl, h1⟩, rfl⟩
 rcases h1.cases with ⟨rfl, k1⟩ | ⟨rfl, k1⟩
 ·obtain ⟨k, rfl⟩ : ∃ k : Nat, n = (k : Int) + 1 := ⟨(n - 1).toNat, by omega⟩
  have hlt : k < M.machs.length := by omega
  have hfew := HF.out.1
  obtain ⟨b1, o1, x, hp1, hx, hc1⟩ := mach_at HM.out.machs rfl hlt
  have hev := dom_eval (K := 4) hx
  have c1 := fun o => (hc1 _ (gA o)).2.1
  have hw1 : IntKind.i64.wrap ((k : Int) + 1 - 1) = (k : Int) := by rw [IntKind.wrap_i64]; omega
  rw [hp1] at n3
  have hlt' : (k : Int) < (M.machs.length : Int) := by omega
  clear h1 k1 hx hc1
  have B := Cells.new w1 #[.int .i64 (M.sites.length : Int), .func (.func 176) #[] #[]] 152
  have q0 := fun o' => (B.2.grow (Gr.alloc (Gr.refl _) o')).at 0 rfl
  have q1 := fun o' => (B.2.grow (Gr.alloc (Gr.refl _) o')).at 1 rfl
  have HB := Lib.hid B.2
  have HGB := Lib.hid (show ∀ o o' : Obj, Gr w1 ((w1.alloc o).alloc o') from gB)
  clear gA B
  go_wp2_with fail
  refine (site_exists _ _ _).mono ?_
  rintro _ _ ⟨⟨v2, rfl, h2⟩, rfl⟩
  rcases h2.cases with ⟨rfl, k2⟩ | ⟨rfl, k2⟩
  ·obtain ⟨r, hr⟩ : ∃ r : Nat, x.rack = (r : Int) + 1 := ⟨(x.rack - 1).toNat, by omega⟩
   rw [hr] at k2 hev
   have hrl : r < M.racks.length := by omega
   obtain ⟨b2, o2, y, hp2, hy, hc2⟩ := rack_at HM.out.racks rfl hrl
   rw [rack_eval hy] at hev
   have HEV := Lib.hid (show domainM M 4 ((k : Int) + 1) = if 1 ≤ (y.site) ∧ (y.site) ≤ (M.sites.length : Int) then (y.site) else 0 from by rw [hev]; simp [domsM])
   have y0 := fun o o' => (hc2 _ (gB o o')).1
   have y1 := fun o o' => (hc2 _ (gB o o')).2.1
   have y2 := fun o o' => (hc2 _ (gB o o')).2.2
   have hw2 : IntKind.i64.wrap ((r : Int) + 1 - 1) = (r : Int) := by rw [IntKind.wrap_i64]; omega
   rw [hp2] at n2
   rw [hr]
   have hrl' : (r : Int) < (M.racks.length : Int) := by omega
   clear h2 hev hy hc2 gB k2
   go_wp2_with fail
   have HB3 := Lib.hid (HB.out.grow (Gr.alloc (Gr.refl _) (.cells (rackV y) 56)))
   have HG3 := Lib.hid (HGB.out (.cells #[.int .i64 (M.sites.length : Int), .func (.func 176) #[] #[]] 152) (.cells (rackV y) 56))
   clear n3 n2 c1 q0 q1 y0 y1 y2 hl
   unfold rackV at HB3 HG3
   generalize w1.heap.size = b3 at HB3 ⊢
   generalize (w1.alloc _).alloc _ = W3 at HB3 HG3 ⊢
   refine (kind_4 W3 _ _ y).mono ?_
   rintro _ w5 ⟨_, rfl, g5, rfl⟩
   have q0 := (HB3.out.grow g5).at 0 rfl
   have HG5 := Lib.hid g5
   clear g5
   go_wp2_with fail
   refine (site_exists _ _ _).mono ?_
   rintro _ _ ⟨⟨v3, rfl, h3⟩, rfl⟩
   rcases h3.cases with ⟨rfl, k3⟩ | ⟨rfl, k3⟩
   ·have H3 := Lib.hid k3
    clear k3 h3
    go_wp2_with fail
    try rw [Exit.noGoto_ret]
    go_ret
    exact ⟨_, rfl, (G.out.trans HG3.out).trans HG5.out, by rw [HEV.out, if_pos H3.out]; rfl⟩
   ·have H3 := Lib.hid k3
    clear k3 h3
    go_wp2_with fail
    try rw [Exit.noGoto_ret]
    go_ret
    exact ⟨_, rfl, (G.out.trans HG3.out).trans HG5.out, by rw [HEV.out, if_neg H3.out]; rfl⟩
  ·have HE := Lib.hid (show domainM M 4 ((k : Int) + 1) = 0 from by rw [hev, rack_none k2]; simp)
   clear h2 hev gB
   go_wp2_with fail
   try rw [Exit.noGoto_ret]
   go_ret
   exact ⟨_, rfl, G.out.trans (HGB.out _ _), by rw [HE.out]; rfl⟩
 ·have HE := Lib.hid (show domainM M 4 n = 0 from by unfold domainM; rw [if_neg k1])
  have HGA := Lib.hid (show ∀ o : Obj, Gr w1 (w1.alloc o) from gA)
  go_wp2_with fail
  try rw [Exit.noGoto_ret]
  go_ret
  exact ⟨_, rfl, G.out.trans (HGA.out _), by rw [HE.out]; rfl⟩
end Go.Proofs.YtnlocdijdfclcaaGreatDoor
namespace Go.Proofs.YtnlocdijdfclcaaGreatDoor
open Go.RowKit Go.Lib Lex
set_option linter.unusedVariables false
set_option linter.unusedSimpArgs false

theorem ref_Domains4 (w : World) (P : Ptrs) (M : Mdl) (hm : MdlAt w P M) : Calls Tryz.prog 169 #[.agg (mcells P M), .int .i64 4] w (Ret w fun r _ => r = .int .i64 (M.sites.length : Int)) := by
 have HM := Lib.hid hm
 have B := Cells.new w (mcells P M) 29
 clear hm
 have m0 := mc0 B.2 _ (Gr.refl _)
 have m1 := mc1 B.2 _ (Gr.refl _)
 have m2 := mc2 B.2 _ (Gr.refl _)
 have m3 := mc3 B.2 _ (Gr.refl _)
 have m4 := mc4 B.2 _ (Gr.refl _)
 have m5 := mc5 B.2 _ (Gr.refl _)
 have m6 := mc6 B.2 _ (Gr.refl _)
 have m7 := mc7 B.2 _ (Gr.refl _)
 have m8 := mc8 B.2 _ (Gr.refl _)
 have m9 := mc9 B.2 _ (Gr.refl _)
 have m10 := mc10 B.2 _ (Gr.refl _)
 unfold mcells at B m0 m1 m2 m3 m4 m5 m6 m7 m8 m9 m10 ⊢
 go_enter Tryz.func169, Tryz.ntmps169
 go_wp2_with fail
 clear m0 m1 m2 m3 m4 m5 m6 m7 m8 m9 m10
 generalize w.heap.size = bm at B ⊢
 generalize w.alloc _ = W at B ⊢
 obtain ⟨g0, tm⟩ := B
 have TM := Lib.hid (show Cells W bm (mcells P M) from tm)
 have G := Lib.hid g0
 have HM := Lib.hid (HM.out.grow g0)
 clear g0 tm
 have m0 := mc0 TM.out _ (Gr.refl _)
 have m1 := mc1 TM.out _ (Gr.refl _)
 have m2 := mc2 TM.out _ (Gr.refl _)
 have m3 := mc3 TM.out _ (Gr.refl _)
 have m4 := mc4 TM.out _ (Gr.refl _)
 have m5 := mc5 TM.out _ (Gr.refl _)
 have m6 := mc6 TM.out _ (Gr.refl _)
 have m7 := mc7 TM.out _ (Gr.refl _)
 have m8 := mc8 TM.out _ (Gr.refl _)
 have m9 := mc9 TM.out _ (Gr.refl _)
 have m10 := mc10 TM.out _ (Gr.refl _)
 try rw [Exit.noGoto_ret]
 go_ret
 exact ⟨_, rfl, G.out, rfl⟩
set_option maxRecDepth 100000 in
set_option maxHeartbeats 1600000 in
theorem ref_Domain4 (w : World) (P : Ptrs) (M : Mdl) (n : Int) (hm : MdlAt w P M) (hf : Few M) : Calls Tryz.prog 131 #[.agg (mcells P M), .int .i64 4, .int .i64 n] w (Ret w fun r _ => r = .int .i64 (domainM M 4 n)) := by
 have HF := Lib.hid hf
 clear hf
 have HM := Lib.hid hm
 have B := Cells.new w (mcells P M) 29
 clear hm
 have m0 := mc0 B.2 _ (Gr.refl _)
 have m1 := mc1 B.2 _ (Gr.refl _)
 have m2 := mc2 B.2 _ (Gr.refl _)
 have m3 := mc3 B.2 _ (Gr.refl _)
 have m4 := mc4 B.2 _ (Gr.refl _)
 have m5 := mc5 B.2 _ (Gr.refl _)
 have m6 := mc6 B.2 _ (Gr.refl _)
 have m7 := mc7 B.2 _ (Gr.refl _)
 have m8 := mc8 B.2 _ (Gr.refl _)
 have m9 := mc9 B.2 _ (Gr.refl _)
 have m10 := mc10 B.2 _ (Gr.refl _)
 unfold mcells at B m0 m1 m2 m3 m4 m5 m6 m7 m8 m9 m10 ⊢
 go_enter Tryz.func131, Tryz.ntmps131
 go_wp2_with fail
 clear m0 m1 m2 m3 m4 m5 m6 m7 m8 m9 m10
 generalize w.heap.size = bm at B ⊢
 generalize w.alloc _ = W at B ⊢
 obtain ⟨g0, tm⟩ := B
 have TM := Lib.hid (show Cells W bm (mcells P M) from tm)
 have G := Lib.hid g0
 have HM := Lib.hid (HM.out.grow g0)
 clear g0 tm
 have m0 := mc0 TM.out _ (Gr.refl _)
 have m1 := mc1 TM.out _ (Gr.refl _)
 have m2 := mc2 TM.out _ (Gr.refl _)
 have m3 := mc3 TM.out _ (Gr.refl _)
 have m4 := mc4 TM.out _ (Gr.refl _)
 have m5 := mc5 TM.out _ (Gr.refl _)
 have m6 := mc6 TM.out _ (Gr.refl _)
 have m7 := mc7 TM.out _ (Gr.refl _)
 have m8 := mc8 TM.out _ (Gr.refl _)
 have m9 := mc9 TM.out _ (Gr.refl _)
 have m10 := mc10 TM.out _ (Gr.refl _)
 refine (ref_Exists _ _ _).mono ?_
 rintro _ _ ⟨⟨v1, rfl, h1⟩, rfl⟩
 rcases h1.cases with ⟨rfl, k1⟩ | ⟨rfl, k1⟩
 ·obtain ⟨k, rfl⟩ : ∃ k : Nat, n = (k : Int) + 1 := ⟨(n - 1).toNat, by omega⟩
  have hlt : k < M.machs.length := by omega
  have hfew := HF.out.1
  obtain ⟨b1, o1, x, hp1, hx, hc1⟩ := mach_at HM.out.machs rfl hlt
  have hev := dom_eval (K := 4) hx
  have c1 := (hc1 _ (Gr.refl _)).2.1
  have hw1 : IntKind.i64.wrap ((k : Int) + 1 - 1) = (k : Int) := by rw [IntKind.wrap_i64]; omega
  have q3 := m3
  rw [hp1] at q3
  clear m3
  have hlt' : (k : Int) < (M.machs.length : Int) := by omega
  clear h1 k1 hx hc1
  go_wp2_with fail
  refine (ref_Exists _ _ _).mono ?_
  rintro _ _ ⟨⟨v2, rfl, h2⟩, rfl⟩
  rcases h2.cases with ⟨rfl, k2⟩ | ⟨rfl, k2⟩
  ·obtain ⟨r, hr⟩ : ∃ r : Nat, x.rack = (r : Int) + 1 := ⟨(x.rack - 1).toNat, by omega⟩
   rw [hr] at k2 hev
   have hrl : r < M.racks.length := by omega
   obtain ⟨b2, o2, y, hp2, hy, hc2⟩ := rack_at HM.out.racks rfl hrl
   rw [rack_eval hy] at hev
   have HEV := Lib.hid (show domainM M 4 ((k : Int) + 1) = if 1 ≤ y.site ∧ y.site ≤ (M.sites.length : Int) then y.site else 0 from by rw [hev]; simp [domsM])
   have y1 := (hc2 _ (Gr.refl _)).2.1
   have hw2 : IntKind.i64.wrap ((r : Int) + 1 - 1) = (r : Int) := by rw [IntKind.wrap_i64]; omega
   have q2 := m2
   rw [hp2] at q2
   rw [hr]
   have hrl' : (r : Int) < (M.racks.length : Int) := by omega
   have q2' := m2
   clear h2 hev hy hc2 k2 m2 q2'
   go_wp2_with fail
   have hcall := ref_Domains4 W P M HM.out
   unfold mcells at hcall
   rw [hp1, hp2] at hcall
   refine hcall.mono ?_
   clear hcall
   rintro _ w5 ⟨_, rfl, g5, rfl⟩
   have G := Lib.hid (G.out.trans g5)
   clear m0 m1 m4 m5 m6 m7 m8 m9 m10 q3 q2 c1 y1 g5
   go_wp2_with fail
   refine (ref_Exists _ _ _).mono ?_
   rintro _ _ ⟨⟨v3, rfl, h3⟩, rfl⟩
   rcases h3.cases with ⟨rfl, k3⟩ | ⟨rfl, k3⟩
   ·have H3 := Lib.hid k3
    clear k3 h3
    go_wp2_with fail
    try rw [Exit.noGoto_ret]
    go_ret
    exact ⟨_, rfl, G.out, by rw [HEV.out, if_pos H3.out]; rfl⟩
   ·have H3 := Lib.hid k3
    clear k3 h3
    go_wp2_with fail
    try rw [Exit.noGoto_ret]
    go_ret
    exact ⟨_, rfl, G.out, by rw [HEV.out, if_neg H3.out]; rfl⟩
  ·have HE := Lib.hid (show domainM M 4 ((k : Int) + 1) = 0 from by rw [hev, rack_none k2]; simp)
   clear h2 hev
   go_wp2_with fail
   try rw [Exit.noGoto_ret]
   go_ret
   exact ⟨_, rfl, G.out, by rw [HE.out]; rfl⟩
 ·have HE := Lib.hid (show domainM M 4 n = 0 from by unfold domainM; rw [if_neg k1])
  go_wp2_with fail
  try rw [Exit.noGoto_ret]
  go_ret
  exact ⟨_, rfl, G.out, by rw [HE.out]; rfl⟩
theorem link_prd (w : World) (p q : Nat) (a b : Int) (hp : Cells w p #[.int .i64 a]) (hq : Cells w q #[.int .i64 b]) :
  PrdB w (.func (.func 130) #[] #[.pointer (some ⟨p, 0, none⟩), .pointer (some ⟨q, 0, none⟩)]) encLink (joins a b) := by
 refine ⟨_, _, rfl, enters_of Tryz.func130 (by kernel_rfl) rfl, fun w' g x => ?_⟩
 have HP := Lib.hid (hp.grow g)
 have HQ := Lib.hid (hq.grow g)
 clear hp hq g
 have B := Cells.new w' #[.int .i64 x.a, .int .i64 x.b, .int .i64 x.cap] 117
 have d0 := B.2.at 0 rfl
 have d1 := B.2.at 1 rfl
 have d2 := B.2.at 2 rfl
 have p0 := (HP.out.grow B.1).at 0 rfl
 have q0 := (HQ.out.grow B.1).at 0 rfl
 have G := Lib.hid B.1
 clear B
 show Calls _ _ #[.agg #[.int .i64 x.a, .int .i64 x.b, .int .i64 x.cap], .pointer (some ⟨p, 0, none⟩), .pointer (some ⟨q, 0, none⟩)] _ _
 unfold joins
 obtain ⟨t1, h1⟩ : ∃ t, (x.a == a) = t := ⟨_, rfl⟩
 obtain ⟨t2, h2⟩ : ∃ t, (x.b == b) = t := ⟨_, rfl⟩
 obtain ⟨t3, h3⟩ : ∃ t, (x.a == b) = t := ⟨_, rfl⟩
 obtain ⟨t4, h4⟩ : ∃ t, (x.b == a) = t := ⟨_, rfl⟩
 cases t1 <;> cases t2 <;> cases t3 <;> cases t4 <;>
 ·go_enter Tryz.func130, Tryz.ntmps130
  go_wp2_with fail
  go_ret
  exact ⟨_, rfl, G.out, by rw [h1, h2, h3, h4]; rfl⟩
theorem site_Link (w : World) (P : Ptrs) (M : Mdl) (a b : Int) (hm : MdlAt w P M) (hf : Few M) : Calls Tryz.prog 83 #[.agg (mcells P M), .int .i64 a, .int .i64 b] w (Ret w fun r _ => r = .int .i64 (linkM M a b)) := by
 have HF := Lib.hid hf
 have HM := Lib.hid hm
 have B0 := Cells.new w (mcells P M) 29
 have B1 := Cells.new (w.alloc (.cells (mcells P M) 29)) #[.int .i64 a] 3
 have B2 := Cells.new ((w.alloc (.cells (mcells P M) 29)).alloc (.cells #[.int .i64 a] 3)) #[.int .i64 b] 3
 simp only [World.size_alloc] at B1 B2
 have m4 := mc4 B0.2 _ (B1.1.trans B2.1)
 have d1 := (B1.2.grow B2.1).at 0 rfl
 have d2 := B2.2.at 0 rfl
 have H := Lib.hid (show _ ∧ _ ∧ _ from ⟨(B0.1.trans B1.1).trans B2.1, B1.2.grow B2.1, B2.2⟩)
 clear hm hf B0 B1 B2
 unfold mcells at H m4 ⊢
 by_cases e : a = b
 ·subst e
  go_enter Tryz.func83, Tryz.ntmps83
  go_wp2_with fail
  try rw [Exit.noGoto_ret]
  go_ret
  exact ⟨_, rfl, H.out.1, by unfold linkM; rw [if_pos rfl]; rfl⟩
 ·have e0 : (a == b) = false := by simpa using e
  have E := Lib.hid e
  clear e
  go_enter Tryz.func83, Tryz.ntmps83
  go_wp2_with fail
  clear m4 d1 d2
  generalize w.heap.size + 1 + 1 = b2 at H ⊢
  generalize w.heap.size + 1 = b1 at H ⊢
  generalize ((w.alloc _).alloc _).alloc _ = W at H ⊢
  obtain ⟨g, t1, t2⟩ := H.out
  have hfew := HF.out.1
  refine (link_indexB W P.p4 M.links.length P.c4 M.links _ _ (HM.out.grow g).links rfl (by omega) (link_prd W b1 b2 a b t1 t2)).mono ?_
  rintro _ w2 ⟨_, rfl, g2, rfl⟩
  have hb := firstAt_ge (joins a b) M.links
  have hw : IntKind.i64.wrap (1 + firstAt (joins a b) M.links) = 1 + firstAt (joins a b) M.links := by rw [IntKind.wrap_i64]; omega
  have HR := Lib.hid (show linkM M a b = 1 + firstAt (joins a b) M.links from by unfold linkM; rw [if_neg E.out])
  have G := Lib.hid (g.trans g2)
  clear hb t1 t2 g g2
  go_wp2_with fail
  go_ret
  exact ⟨_, rfl, G.out, by rw [HR.out]; rfl⟩
set_option maxRecDepth 100000 in
set_option maxHeartbeats 1600000 in
theorem ref_Link (w : World) (P : Ptrs) (M : Mdl) (a b : Int) (hm : MdlAt w P M) (hf : Few M) : Calls Tryz.prog 133 #[.agg (mcells P M), .int .i64 a, .int .i64 b] w (Ret w fun r _ => r = .int .i64 (linkM M a b)) := by
 have HF := Lib.hid hf
 clear hf
 have HM := Lib.hid hm
 have B := Cells.new w (mcells P M) 29
 clear hm
 have m0 := mc0 B.2 _ (Gr.refl _)
 have m1 := mc1 B.2 _ (Gr.refl _)
 have m2 := mc2 B.2 _ (Gr.refl _)
 have m3 := mc3 B.2 _ (Gr.refl _)
 have m4 := mc4 B.2 _ (Gr.refl _)
 have m5 := mc5 B.2 _ (Gr.refl _)
 have m6 := mc6 B.2 _ (Gr.refl _)
 have m7 := mc7 B.2 _ (Gr.refl _)
 have m8 := mc8 B.2 _ (Gr.refl _)
 have m9 := mc9 B.2 _ (Gr.refl _)
 have m10 := mc10 B.2 _ (Gr.refl _)
 unfold mcells at B m0 m1 m2 m3 m4 m5 m6 m7 m8 m9 m10 ⊢
 go_enter Tryz.func133, Tryz.ntmps133
 go_wp2_with fail
 clear m0 m1 m2 m3 m4 m5 m6 m7 m8 m9 m10
 generalize w.heap.size = bm at B ⊢
 generalize w.alloc _ = W at B ⊢
 obtain ⟨g0, tm⟩ := B
 have TM := Lib.hid (show Cells W bm (mcells P M) from tm)
 have G := Lib.hid g0
 have HM := Lib.hid (HM.out.grow g0)
 clear g0 tm
 have m0 := mc0 TM.out _ (Gr.refl _)
 have m1 := mc1 TM.out _ (Gr.refl _)
 have m2 := mc2 TM.out _ (Gr.refl _)
 have m3 := mc3 TM.out _ (Gr.refl _)
 have m4 := mc4 TM.out _ (Gr.refl _)
 have m5 := mc5 TM.out _ (Gr.refl _)
 have m6 := mc6 TM.out _ (Gr.refl _)
 have m7 := mc7 TM.out _ (Gr.refl _)
 have m8 := mc8 TM.out _ (Gr.refl _)
 have m9 := mc9 TM.out _ (Gr.refl _)
 have m10 := mc10 TM.out _ (Gr.refl _)
 clear m0 m1 m2 m3 m4 m5 m6 m7 m8 m9 m10
 go_loopw [7] (fun i w9 => ∃ k : Nat, i = .int .i64 (k : Int) ∧ k ≤ M.links.length ∧ (a = b → k = 0) ∧ (∀ (j : Nat) (x : LinkM), j < k → M.links[j]? = some x → joins a b x = false) ∧ Gr W w9) (fun i _ => M.links.length - (RowKit.intOf i).toNat)
 case atStart => exact ⟨0, rfl, Nat.zero_le _, fun _ => rfl, fun j x hj => by omega, Gr.refl _⟩
 case round =>
  obtain ⟨k, rfl, hk, hz, hp, hg⟩ := hrel
  have HP := Lib.hid hp
  have HZ := Lib.hid hz
  have GL := Lib.hid hg
  clear hp hg hz
  have TMx := Lib.hid (TM.out.grow GL.out)
  have hfew := HF.out.1
  by_cases hlt : k < M.links.length
  ·have hlt' : (k : Int) < (M.links.length : Int) := by omega
   obtain ⟨b1, o1, x, hp1, hx, hc⟩ := link_at (HM.out.grow GL.out).links rfl hlt
   have HX := Lib.hid hx
   have m4 := mc4 TMx.out _ (Gr.refl _)
   rw [hp1] at m4
   by_cases e : a = b
   ·have e0 : (a == b) = true := by simpa using e
    have E := Lib.hid e
    have e1 : (a != b) = false := by simpa using e
    clear hx hc
    clear e
    go_wp2_with fail
    try rw [Exit.noGoto_ret]
    go_ret
    exact ⟨_, rfl, G.out.trans GL.out, by unfold linkM; rw [if_pos E.out]; rfl⟩
   ·have e0 : (a == b) = false := by simpa using e
    have e1 : (a != b) = true := by simpa using e
    have E := Lib.hid e
    obtain ⟨c0, c1, c2⟩ := hc _ (Gr.refl _)
    have B := Cells.new wr #[.int .i64 x.a, .int .i64 x.b, .int .i64 x.cap] 117
    have d0 := B.2.at 0 rfl
    have d1 := B.2.at 1 rfl
    have GB := Lib.hid B.1
    obtain ⟨t, ht⟩ : ∃ t, joins a b x = t := ⟨_, rfl⟩
    have HTT := Lib.hid ht
    clear hx hc e B
    unfold joins at ht
    obtain ⟨t1, h1⟩ : ∃ t, (x.a == a) = t := ⟨_, rfl⟩
    obtain ⟨t2, h2⟩ : ∃ t, (x.b == b) = t := ⟨_, rfl⟩
    obtain ⟨t3, h3⟩ : ∃ t, (x.a == b) = t := ⟨_, rfl⟩
    obtain ⟨t4, h4⟩ : ∃ t, (x.b == a) = t := ⟨_, rfl⟩
    rw [h1, h2, h3, h4] at ht
    subst ht
    have HN := Lib.hid (show joins a b x = false → ∀ (j : Nat) (y : LinkM), j < k + 1 → M.links[j]? = some y → joins a b y = false from fun hf j y hj hy => by
     by_cases h : j = k
     ·subst h
      obtain rfl : y = x := Option.some.inj (hy.symm.trans HX.out)
      exact hf
     ·exact HP.out j y (by omega) hy)
    have HY := Lib.hid (show joins a b x = true → linkM M a b = (k : Int) + 1 from fun hf => by
     unfold linkM
     rw [if_neg E.out, firstAt_some HX.out hf HP.out]
     omega)
    clear HZ
    cases t1 <;> cases t2 <;> cases t3 <;> cases t4 <;> first
    | (go_wp2_with fail
       exact ⟨⟨k + 1, by go_num, by omega, fun h => absurd h E.out, HN.out (HTT.out.trans rfl), GL.out.trans GB.out⟩, by simp [RowKit.intOf]; omega⟩)
    | (go_wp2_with fail
       try rw [Exit.noGoto_ret]
       go_ret
       exact ⟨_, rfl, (G.out.trans GL.out).trans GB.out, by rw [HY.out (HTT.out.trans rfl)]; rfl⟩)
  ·obtain rfl : k = M.links.length := by omega
   have m4 := mc4 TMx.out _ (Gr.refl _)
   have HR := Lib.hid (show linkM M a b = 0 from by
    unfold linkM
    split
    ·rfl
    ·rw [firstAt_none HP.out]; rfl)
   go_wp2_with fail
   try rw [Exit.noGoto_ret]
   go_ret
   exact ⟨_, rfl, G.out.trans GL.out, by rw [HR.out]; rfl⟩
end Go.Proofs.YtnlocdijdfclcaaGreatDoor

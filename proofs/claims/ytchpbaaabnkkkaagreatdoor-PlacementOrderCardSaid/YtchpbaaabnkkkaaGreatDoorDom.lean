/-
  site.kinds, Domain, Link; exodusref14.Domains, Domain, Link.
  site.Domain.
  exodusref14.Domains, Domain (by site); site.Link, exodusref14.Link.
-/
import Derived.Test.YtchpbaaabnkkkaaGreatDoorPlp
import Derived.Test.YtchpbaaabnkkkaaGreatDoorMap
import Derived.Laws.EntriesVeiled
namespace Go.Proofs.YtchpbaaabnkkkaaGreatDoor
open Go.RowKit Go.Lib Lex
set_option linter.unusedVariables false
set_option linter.unusedSimpArgs false

theorem int_keyK {n : Int} : MapKept.IsKey (.int .i64) (.int .i64 n) := by simp [MapKept.IsKey]
def kd (c : Int) (f : FuncId) : Value := .agg #[.int .i64 c, .func (.func f) #[] #[]]
def kindsL (M : Mdl) : List (Value × Value) := [(.int .i64 1, kd M.machs.length 173), (.int .i64 2, kd M.racks.length 174), (.int .i64 3, kd M.feeds.length 175), (.int .i64 4, kd M.sites.length 176)]
theorem site_kinds (w : World) (P : Ptrs) (M : Mdl) (hm : MdlAt w P M) : Calls Tryz.prog 127 #[.agg (mcells P M)] w (Ret w fun r w' => ∃ b, r = .map (some b) ∧ MapAt w' b (kindsL M)) := by
 have hmk := fun w => run_makeMap (P := Tryz.prog) 136 w
 have B := Cells.new w (mcells P M) 29
 have gm := fun o : Obj => Gr.alloc (Gr.refl (w.alloc (.cells (mcells P M) 29))) o
 have m0 := fun o => mc0 B.2 _ (gm o)
 have m1 := fun o => mc1 B.2 _ (gm o)
 have m2 := fun o => mc2 B.2 _ (gm o)
 have m3 := fun o => mc3 B.2 _ (gm o)
 have i0 := run_store_alloc (P := Tryz.prog) (w := w.alloc (.cells (mcells P M) 29)) (es := #[]) (c := 0) (t := 136) (key := .int .i64 1) (es' := #[⟨.int .i64 1, (.agg #[.int .i64 (M.machs.length : Int), .func (.func 173) #[] #[]]), 0⟩]) (.agg #[.int .i64 (M.machs.length : Int), .func (.func 173) #[] #[]]) Tryz.underlying136 Tryz.underlying3 int_keyK (by rfl) (by rfl)
 simp only [Nat.reduceAdd] at i0
 rw [World.size_alloc] at i0
 have i1 := run_store_alloc (P := Tryz.prog) (w := w.alloc (.cells (mcells P M) 29)) (es := #[⟨.int .i64 1, (.agg #[.int .i64 (M.machs.length : Int), .func (.func 173) #[] #[]]), 0⟩]) (c := 1) (t := 136) (key := .int .i64 2) (es' := #[⟨.int .i64 1, (.agg #[.int .i64 (M.machs.length : Int), .func (.func 173) #[] #[]]), 0⟩, ⟨.int .i64 2, (.agg #[.int .i64 (M.racks.length : Int), .func (.func 174) #[] #[]]), 1⟩]) (.agg #[.int .i64 (M.racks.length : Int), .func (.func 174) #[] #[]]) Tryz.underlying136 Tryz.underlying3 int_keyK (by rfl) (by rfl)
 simp only [Nat.reduceAdd] at i1
 rw [World.size_alloc] at i1
 have i2 := run_store_alloc (P := Tryz.prog) (w := w.alloc (.cells (mcells P M) 29)) (es := #[⟨.int .i64 1, (.agg #[.int .i64 (M.machs.length : Int), .func (.func 173) #[] #[]]), 0⟩, ⟨.int .i64 2, (.agg #[.int .i64 (M.racks.length : Int), .func (.func 174) #[] #[]]), 1⟩]) (c := 2) (t := 136) (key := .int .i64 3) (es' := #[⟨.int .i64 1, (.agg #[.int .i64 (M.machs.length : Int), .func (.func 173) #[] #[]]), 0⟩, ⟨.int .i64 2, (.agg #[.int .i64 (M.racks.length : Int), .func (.func 174) #[] #[]]), 1⟩, ⟨.int .i64 3, (.agg #[.int .i64 (M.feeds.length : Int), .func (.func 175) #[] #[]]), 2⟩]) (.agg #[.int .i64 (M.feeds.length : Int), .func (.func 175) #[] #[]]) Tryz.underlying136 Tryz.underlying3 int_keyK (by rfl) (by rfl)
 simp only [Nat.reduceAdd] at i2
 rw [World.size_alloc] at i2
 have i3 := run_store_alloc (P := Tryz.prog) (w := w.alloc (.cells (mcells P M) 29)) (es := #[⟨.int .i64 1, (.agg #[.int .i64 (M.machs.length : Int), .func (.func 173) #[] #[]]), 0⟩, ⟨.int .i64 2, (.agg #[.int .i64 (M.racks.length : Int), .func (.func 174) #[] #[]]), 1⟩, ⟨.int .i64 3, (.agg #[.int .i64 (M.feeds.length : Int), .func (.func 175) #[] #[]]), 2⟩]) (c := 3) (t := 136) (key := .int .i64 4) (es' := #[⟨.int .i64 1, (.agg #[.int .i64 (M.machs.length : Int), .func (.func 173) #[] #[]]), 0⟩, ⟨.int .i64 2, (.agg #[.int .i64 (M.racks.length : Int), .func (.func 174) #[] #[]]), 1⟩, ⟨.int .i64 3, (.agg #[.int .i64 (M.feeds.length : Int), .func (.func 175) #[] #[]]), 2⟩, ⟨.int .i64 4, (.agg #[.int .i64 (M.sites.length : Int), .func (.func 176) #[] #[]]), 3⟩]) (.agg #[.int .i64 (M.sites.length : Int), .func (.func 176) #[] #[]]) Tryz.underlying136 Tryz.underlying3 int_keyK (by rfl) (by rfl)
 simp only [Nat.reduceAdd] at i3
 rw [World.size_alloc] at i3
 have H0 := Lib.hid B.1
 have HG := Lib.hid (show ∀ o, Gr _ _ from gm)
 clear B hm gm
 unfold mcells at *
 go_enter Tryz.func127, Tryz.ntmps127
 go_wp2_with fail
 go_ret
 refine ⟨_, rfl, H0.out.trans (HG.out _), _, rfl, _, _, by have := (MapKept.heap_alloc (w.alloc (.cells (mcells P M) 29)) (.map #[⟨.int .i64 1, (.agg #[.int .i64 (M.machs.length : Int), .func (.func 173) #[] #[]]), 0⟩, ⟨.int .i64 2, (.agg #[.int .i64 (M.racks.length : Int), .func (.func 174) #[] #[]]), 1⟩, ⟨.int .i64 3, (.agg #[.int .i64 (M.feeds.length : Int), .func (.func 175) #[] #[]]), 2⟩, ⟨.int .i64 4, (.agg #[.int .i64 (M.sites.length : Int), .func (.func 176) #[] #[]]), 3⟩] 4)).1; rw [World.size_alloc] at this; exact this, rfl⟩
end Go.Proofs.YtchpbaaabnkkkaaGreatDoor
namespace Go.Proofs.YtchpbaaabnkkkaaGreatDoor
open Go.RowKit Go.Lib Lex
set_option linter.unusedVariables false
set_option linter.unusedSimpArgs false

theorem dom_eval {M : Mdl} {K : Int} {k : Nat} {x : MachM} (hx : M.machs[k]? = some x) : domainM M K ((k : Int) + 1) = if 1 ≤ (if K = 1 then ((k : Int) + 1) else rackDom M K x.rack) ∧ (if K = 1 then ((k : Int) + 1) else rackDom M K x.rack) ≤ domsM M K then (if K = 1 then ((k : Int) + 1) else rackDom M K x.rack) else 0 := by
 have hl := (List.getElem?_eq_some_iff.1 hx).1
 unfold domainM
 rw [if_pos (by omega), show ((k : Int) + 1 - 1).toNat = k by omega, hx]
theorem rack_eval {M : Mdl} {K : Int} {k : Nat} {y : RackM} (hy : M.racks[k]? = some y) : rackDom M K ((k : Int) + 1) = if K = 3 then y.feed else if K = 4 then y.site else (k : Int) + 1 := by
 have hl := (List.getElem?_eq_some_iff.1 hy).1
 unfold rackDom
 rw [if_pos (by omega), show ((k : Int) + 1 - 1).toNat = k by omega, hy]
theorem rack_none {M : Mdl} {K r : Int} (h : ¬ (1 ≤ r ∧ r ≤ (M.racks.length : Int))) : rackDom M K r = 0 := by
 unfold rackDom
 rw [if_neg h]
def rackV (y : RackM) : Array Value := #[.string ⟨y.name.toArray⟩, .int .i64 y.site, .int .i64 y.feed]
theorem kind_1 (w : World) (n r : Int) (y : RackM) : Calls Tryz.prog 173 #[.int .i64 n, .agg (rackV y), .int .i64 r] w (Ret w fun v _ => v = .int .i64 (n)) := by
 have B := Cells.new w (rackV y) 66
 have d0 := B.2.at 0 rfl
 have d1 := B.2.at 1 rfl
 have d2 := B.2.at 2 rfl
 have G := Lib.hid B.1
 clear B
 unfold rackV at *
 go_enter Tryz.func173, Tryz.ntmps173
 go_wp2_with fail
 go_ret
 exact ⟨_, rfl, G.out, rfl⟩
theorem kind_2 (w : World) (n r : Int) (y : RackM) : Calls Tryz.prog 174 #[.int .i64 n, .agg (rackV y), .int .i64 r] w (Ret w fun v _ => v = .int .i64 (r)) := by
 have B := Cells.new w (rackV y) 66
 have d0 := B.2.at 0 rfl
 have d1 := B.2.at 1 rfl
 have d2 := B.2.at 2 rfl
 have G := Lib.hid B.1
 clear B
 unfold rackV at *
 go_enter Tryz.func174, Tryz.ntmps174
 go_wp2_with fail
 go_ret
 exact ⟨_, rfl, G.out, rfl⟩
theorem kind_3 (w : World) (n r : Int) (y : RackM) : Calls Tryz.prog 175 #[.int .i64 n, .agg (rackV y), .int .i64 r] w (Ret w fun v _ => v = .int .i64 (y.feed)) := by
 have B := Cells.new w (rackV y) 66
 have d0 := B.2.at 0 rfl
 have d1 := B.2.at 1 rfl
 have d2 := B.2.at 2 rfl
 have G := Lib.hid B.1
 clear B
 unfold rackV at *
 go_enter Tryz.func175, Tryz.ntmps175
 go_wp2_with fail
 go_ret
 exact ⟨_, rfl, G.out, rfl⟩
theorem kind_4 (w : World) (n r : Int) (y : RackM) : Calls Tryz.prog 176 #[.int .i64 n, .agg (rackV y), .int .i64 r] w (Ret w fun v _ => v = .int .i64 (y.site)) := by
 have B := Cells.new w (rackV y) 66
 have d0 := B.2.at 0 rfl
 have d1 := B.2.at 1 rfl
 have d2 := B.2.at 2 rfl
 have G := Lib.hid B.1
 clear B
 unfold rackV at *
 go_enter Tryz.func176, Tryz.ntmps176
 go_wp2_with fail
 go_ret
 exact ⟨_, rfl, G.out, rfl⟩
set_option maxRecDepth 100000 in
set_option maxHeartbeats 1600000 in
theorem dom_4 (w : World) (P : Ptrs) (M : Mdl) (n : Int) (hm : MdlAt w P M) (hf : Few M) : Calls Tryz.prog 84 #[.agg (mcells P M), .int .i64 4, .int .i64 n] w (Ret w fun r _ => r = .int .i64 (domainM M 4 n)) := by
 have HF := Lib.hid hf
 clear hf
 have he : ∀ args w, (callFunc 176 args).run Tryz.prog w = .ok (.enter 176 args) w := enters_of Tryz.func176 (by kernel_rfl) rfl
 have HM := Lib.hid hm
 have B := Cells.new w (mcells P M) 29
 clear hm
 have m0 := mc0 B.2 _ (Gr.refl _)
 have m1 := mc1 B.2 _ (Gr.refl _)
 have m2 := mc2 B.2 _ (Gr.refl _)
 have m3 := mc3 B.2 _ (Gr.refl _)
 have m4 := mc4 B.2 _ (Gr.refl _)
 have m5 := mc5 B.2 _ (Gr.refl _)
 have m6 := mc6 B.2 _ (Gr.refl _)
 have m7 := mc7 B.2 _ (Gr.refl _)
 have m8 := mc8 B.2 _ (Gr.refl _)
 have m9 := mc9 B.2 _ (Gr.refl _)
 have m10 := mc10 B.2 _ (Gr.refl _)
 unfold mcells at B m0 m1 m2 m3 m4 m5 m6 m7 m8 m9 m10 ⊢
 go_enter Tryz.func84, Tryz.ntmps84
 go_wp2_with fail
 clear m0 m1 m2 m3 m4 m5 m6 m7 m8 m9 m10
 generalize w.heap.size = bm at B ⊢
 generalize w.alloc _ = W at B ⊢
 obtain ⟨g0, tm⟩ := B
 have TM := Lib.hid (show Cells W bm (mcells P M) from tm)
 have G := Lib.hid g0
 have HM := Lib.hid (HM.out.grow g0)
 clear g0 tm
 have m0 := mc0 TM.out _ (Gr.refl _)
 have m1 := mc1 TM.out _ (Gr.refl _)
 have m2 := mc2 TM.out _ (Gr.refl _)
 have m3 := mc3 TM.out _ (Gr.refl _)
 have m4 := mc4 TM.out _ (Gr.refl _)
 have m5 := mc5 TM.out _ (Gr.refl _)
 have m6 := mc6 TM.out _ (Gr.refl _)
 have m7 := mc7 TM.out _ (Gr.refl _)
 have m8 := mc8 TM.out _ (Gr.refl _)
 have m9 := mc9 TM.out _ (Gr.refl _)
 have m10 := mc10 TM.out _ (Gr.refl _)
 clear m0 m1 m2 m3 m4 m5 m6 m7 m8 m9 m10
 refine (site_kinds _ P M HM.out).mono ?_
 rintro _ w1 ⟨_, rfl, g1, b, rfl, hk⟩
 have G := Lib.hid (G.out.trans g1)
 have TM := Lib.hid (TM.out.grow g1)
 have HM := Lib.hid (HM.out.grow g1)
 clear g1
 have hl := (run_lookup_kv (P := Tryz.prog) hk Tryz.underlying136 Tryz.underlying3 (key := .int .i64 4) (v := .agg #[.int .i64 (M.sites.length : Int), .func (.func 176) #[] #[]]) int_keyK rfl).2
 have gA := fun o : Obj => Gr.alloc (Gr.refl w1) o
 have gB := fun o o' : Obj => Gr.alloc (Gr.alloc (Gr.refl w1) o) o'
 have n3 := fun o => mc3 TM.out _ (gA o)
 have n2 := fun o o' => mc2 TM.out _ (gB o o')
 go_wp2_with fail
 refine (site_exists _ _ _).mono ?_
 rintro _ _ ⟨⟨v1, rfl, h1⟩, rfl⟩
 rcases h1.cases with ⟨rfl, k1⟩ | ⟨rfl, k1⟩
 ·obtain ⟨k, rfl⟩ : ∃ k : Nat, n = (k : Int) + 1 := ⟨(n - 1).toNat, by omega⟩
  have hlt : k < M.machs.length := by omega
  have hfew := HF.out.1
  obtain ⟨b1, o1, x, hp1, hx, hc1⟩ := mach_at HM.out.machs rfl hlt
  have hev := dom_eval (K := 4) hx
  have c1 := fun o => (hc1 _ (gA o)).2.1
  have hw1 : IntKind.i64.wrap ((k : Int) + 1 - 1) = (k : Int) := by rw [IntKind.wrap_i64]; omega
  rw [hp1] at n3
  have hlt' : (k : Int) < (M.machs.length : Int) := by omega
  clear h1 k1 hx hc1
  have B := Cells.new w1 #[.int .i64 (M.sites.length : Int), .func (.func 176) #[] #[]] 134
  have q0 := fun o' => (B.2.grow (Gr.alloc (Gr.refl _) o')).at 0 rfl
  have q1 := fun o' => (B.2.grow (Gr.alloc (Gr.refl _) o')).at 1 rfl
  have HB := Lib.hid B.2
  have HGB := Lib.hid (show ∀ o o' : Obj, Gr w1 ((w1.alloc o).alloc o') from gB)
  clear gA B
  go_wp2_with fail
  refine (site_exists _ _ _).mono ?_
  rintro _ _ ⟨⟨v2, rfl, h2⟩, rfl⟩
  rcases h2.cases with ⟨rfl, k2⟩ | ⟨rfl, k2⟩
  ·obtain ⟨r, hr⟩ : ∃ r : Nat, x.rack = (r : Int) + 1 := ⟨(x.rack - 1).toNat, by omega⟩
   rw [hr] at k2 hev
   have hrl : r < M.racks.length := by omega
   obtain ⟨b2, o2, y, hp2, hy, hc2⟩ := rack_at HM.out.racks rfl hrl
   rw [rack_eval hy] at hev
   have HEV := Lib.hid (show domainM M 4 ((k : Int) + 1) = if 1 ≤ (y.site) ∧ (y.site) ≤ (M.sites.length : Int) then (y.site) else 0 from by rw [hev]; simp [domsM])
   have y0 := fun o o' => (hc2 _ (gB o o')).1
   have y1 := fun o o' => (hc2 _ (gB o o')).2.1
   have y2 := fun o o' => (hc2 _ (gB o o')).2.2
   have hw2 : IntKind.i64.wrap ((r : Int) + 1 - 1) = (r : Int) := by rw [IntKind.wrap_i64]; omega
   rw [hp2] at n2
   rw [hr]
   have hrl' : (r : Int) < (M.racks.length : Int) := by omega
   clear h2 hev hy hc2 gB k2
   go_wp2_with fail
   have HB3 := Lib.hid (HB.out.grow (Gr.alloc (Gr.refl _) (.cells (rackV y) 66)))
   have HG3 := Lib.hid (HGB.out (.cells #[.int .i64 (M.sites.length : Int), .func (.func 176) #[] #[]] 134) (.cells (rackV y) 66))
   clear n3 n2 c1 q0 q1 y0 y1 y2 hl
   unfold rackV at HB3 HG3
   generalize w1.heap.size = b3 at HB3 ⊢
   generalize (w1.alloc _).alloc _ = W3 at HB3 HG3 ⊢
   refine (kind_4 W3 _ _ y).mono ?_
   rintro _ w5 ⟨_, rfl, g5, rfl⟩
   have q0 := (HB3.out.grow g5).at 0 rfl
   have HG5 := Lib.hid g5
   clear g5
   go_wp2_with fail
   refine (site_exists _ _ _).mono ?_
   rintro _ _ ⟨⟨v3, rfl, h3⟩, rfl⟩
   rcases h3.cases with ⟨rfl, k3⟩ | ⟨rfl, k3⟩
   ·have H3 := Lib.hid k3
    clear k3 h3
    go_wp2_with fail
    try rw [Exit.noGoto_ret]
    go_ret
    exact ⟨_, rfl, (G.out.trans HG3.out).trans HG5.out, by rw [HEV.out, if_pos H3.out]; rfl⟩
   ·have H3 := Lib.hid k3
    clear k3 h3
    go_wp2_with fail
    try rw [Exit.noGoto_ret]
    go_ret
    exact ⟨_, rfl, (G.out.trans HG3.out).trans HG5.out, by rw [HEV.out, if_neg H3.out]; rfl⟩
  ·have HE := Lib.hid (show domainM M 4 ((k : Int) + 1) = 0 from by rw [hev, rack_none k2]; simp)
   clear h2 hev gB
   go_wp2_with fail
   try rw [Exit.noGoto_ret]
   go_ret
   exact ⟨_, rfl, G.out.trans (HGB.out _ _), by rw [HE.out]; rfl⟩
 ·have HE := Lib.hid (show domainM M 4 n = 0 from by unfold domainM; rw [if_neg k1])
  have HGA := Lib.hid (show ∀ o : Obj, Gr w1 (w1.alloc o) from gA)
  go_wp2_with fail
  try rw [Exit.noGoto_ret]
  go_ret
  exact ⟨_, rfl, G.out.trans (HGA.out _), by rw [HE.out]; rfl⟩
end Go.Proofs.YtchpbaaabnkkkaaGreatDoor
namespace Go.Proofs.YtchpbaaabnkkkaaGreatDoor
open Go.RowKit Go.Lib Lex
set_option linter.unusedVariables false
set_option linter.unusedSimpArgs false

end Go.Proofs.YtchpbaaabnkkkaaGreatDoor

/- Texts: LnB. -/
import Derived.Test.YtcjgimlcefhhmaaGreatDoorW31
set_option linter.unusedVariables false
set_option linter.unusedSimpArgs false
set_option maxRecDepth 100000
set_option maxHeartbeats 12800000
namespace Go.Proofs.YtcjgimlcefhhmaaGreatDoor
namespace Prf
open Go.RowKit Go.Lib
theorem ξ8A (w : World) (n : Nat) (x : RowM) (hn : n ≤ 1000000) (hx : ξ1G w x) (hi : RowI x.s) (hl : x.name.length ≤ 1000000) :
  Calls Tryz.prog 87 #[.int .i64 (n : Int), rowV x] w (Ret w fun r _ => ξ1 (ξI n x.s) r) := by
 have B := ξ0.new w #[.string ⟨x.name.toArray⟩, .int .i64 x.group, .int .i64 x.kind, .slice x.tp x.terms.length x.tc, .int .i64 x.bound] 42
 have HB := ξ B
 have HX := ξ (SlL.grow hx B.1)
 have hb := ξ0s.big hx
 have HI := ξ hi
 clear B hx hi
 unfold rowV
 have HI5 := ξ HI.out.2.2.1
 go_enter Tryz.func87, Tryz.ntmps87
 go_wp2_with fail
 any_goals (go_ret; exact ⟨_, rfl, HB.out.1, ξ1.no fun k => by
  obtain ⟨⟨q1, q2⟩, ⟨q3, q4⟩, q5, -⟩ := k
  simp only [RowM.s] at q1 q2 q3 q4 q5
  omega⟩)
 have HA := ξ (show (0 ≤ x.s.kind ∧ x.s.kind ≤ 2) ∧ (0 ≤ x.s.group ∧ x.s.group ≤ 60) ∧ x.s.name.length ≤ 80 by simp only [RowM.s]; omega)
 have hsz : (w.alloc (.cells #[.string ⟨x.name.toArray⟩, .int .i64 x.group, .int .i64 x.kind, .slice x.tp x.terms.length x.tc, .int .i64 x.bound] 42)).heap.size = w.heap.size + 1 := World.size_alloc ..
 rw [← hsz]
 clear hsz
 generalize w.heap.size = bp at HB ⊢
 generalize w.alloc _ = W at HB HX ⊢
 have G := ξ HB.out.1
 have TX := ξ HB.out.2
 clear HB
 have B2 := ξ0.new W #[.int .i64 x.bound] 2
 refine (ξ3Y _ _ 1 1 [x.bound] (ξ3t B2.2 rfl (by simp)) rfl (by decide)).mono ?_
 rintro _ W2 ⟨r, rfl, g2, h⟩
 have TX := ξ (TX.out.grow (B2.1.trans g2))
 have HX := ξ (SlL.grow HX.out (B2.1.trans g2))
 have G := ξ (G.out.trans (B2.1.trans g2))
 clear B2 g2
 rcases h.cases with ⟨rfl, k1⟩ | ⟨rfl, k1⟩
 rotate_left
 ·have H := ξ (show ¬ ξI n x.s from fun h => k1 (fun z hz => by obtain rfl := List.mem_singleton.1 hz; exact h.2.2.2.1))
  clear h k1
  go_wp2_with fail
  try rw [Exit.noGoto_ret]
  go_ret
  exact ⟨_, rfl, G.out, ξ1.no H.out⟩
 have HBd := ξ (show In x.s.bound from k1 x.bound (List.mem_singleton.2 rfl))
 clear h k1
 have x3 := TX.out.at 3 rfl
 go_wp2_with fail
 clear x3
 go_loopw [5, 42] (fun i v w9 => ∃ k : Nat, i = .int .i64 (lastV x.terms k) ∧ v = .int .i64 (k : Int) ∧ k ≤ x.terms.length ∧ Inc n (-1) (x.terms.take k) ∧ Gr W2 w9) (fun i v _ => x.terms.length - (RowKit.intOf v).toNat)
 case atStart => exact ⟨0, rfl, rfl, Nat.zero_le _, trivial, Gr.refl _⟩
 case round =>
  obtain ⟨k, rfl, rfl, hk, hq, hg⟩ := hrel
  have HQ := ξ hq
  have GL := ξ hg
  clear hq hg
  by_cases hlt : k < x.terms.length
  ·have hlt' : (k : Int) < (x.terms.length : Int) := by omega
   obtain ⟨b, o, t, hp, ht, hc⟩ := ξ3h (SlL.grow HX.out GL.out) rfl hlt
   rw [hp]
   obtain ⟨c0, c1⟩ := hc _ (Gr.refl _)
   have HT := ξ ht
   obtain ⟨lv, hlv⟩ : ∃ l, lastV x.terms k = l := ⟨_, rfl⟩
   rw [hlv]
   have HLV := ξ hlv
   clear hc ht hp hlv
   go_wp2_with fail
   any_goals (go_ret; refine ⟨_, rfl, (G.out.trans GL.out).alloc _, ξ1.no fun h => ξ44 HT.out (fun q => ?_) h.2.2.2.2.2⟩; rw [HLV.out] at q; omega)
   have HV := ξ (show lastV x.terms k < t.v ∧ t.v < (n : Int) ∧ t.c ≠ 0 from ⟨by rw [HLV.out]; omega, by omega, by assumption⟩)
   have B2 := ξ (ξ0.new wr #[.int .i64 t.v, .int .i64 t.c] 75)
   have hsz : (wr.alloc (.cells #[.int .i64 t.v, .int .i64 t.c] 75)).heap.size = wr.heap.size + 1 := World.size_alloc ..
   rw [← hsz]
   clear hsz
   generalize wr.heap.size = bt at B2 ⊢
   generalize wr.alloc _ = W3 at B2 ⊢
   have B3 := ξ0.new W3 #[.int .i64 t.c] 2
   refine (ξ3Y _ _ 1 1 [t.c] (ξ3t B3.2 rfl (by simp)) rfl (by decide)).mono ?_
   rintro _ W4 ⟨r, rfl, g4, h⟩
   have G2 := ξ (GL.out.trans (B2.out.1.trans (B3.1.trans g4)))
   have y4 := (B2.out.2.grow (B3.1.trans g4)).at 0 rfl
   clear B2 B3 g4 c0 c1
   rcases h.cases with ⟨rfl, k1⟩ | ⟨rfl, k1⟩
   ·have HK := ξ (show In t.c from k1 t.c (List.mem_singleton.2 rfl))
    clear h k1
    have hk1 : IntKind.i64.wrap ((k : Int) + 1) = (k : Int) + 1 := by rw [IntKind.wrap_i64]; omega
    go_wp2_with fail
    any_goals (rename_i hh; exfalso; simp only [beq_iff_eq] at hh; omega)
    exact ⟨⟨k + 1, by rw [ξ53 HT.out], by go_num, by omega, ξ6t HT.out HQ.out HV.out.1 HV.out.2.1 HV.out.2.2 HK.out, G2.out⟩, by simp [RowKit.intOf]; omega⟩
   ·have H := ξ (show ¬ ξI n x.s from fun h => ξ44 HT.out (fun q => k1 (fun z hz => by obtain rfl := List.mem_singleton.1 hz; exact q.2.2.2)) h.2.2.2.2.2)
    clear h k1
    go_wp2_with fail
    try rw [Exit.noGoto_ret]
    go_ret
    exact ⟨_, rfl, G.out.trans G2.out, ξ1.no H.out⟩
  ·obtain rfl : k = x.terms.length := by omega
   have x0 := (TX.out.grow GL.out).at 0 rfl
   go_wp2_with fail
   clear x0
   refine (Tryz.strings_ContainsFunc_grows 140 #[] (enters_of Tryz.func140 (by kernel_rfl) rfl) offText ⟨x.name.toArray⟩ wr (fun W x hx _ => ξcj W x hx)).mono ?_
   rintro _ W5 ⟨rfl, g5⟩
   have g5 : Gr wr W5 := g5
   have G5 := ξ (G.out.trans (GL.out.trans g5))
   obtain ⟨t, ht⟩ : ∃ t, decide (0 ≤ idxFunc offText true ⟨x.name.toArray⟩) = t := ⟨_, rfl⟩
   rw [ht]
   have HT := ξ ht
   clear ht g5
   cases t
   ·have HN := ξ (show ∀ b ∈ x.s.name, 32 ≤ b ∧ b ≤ 126 from Classical.not_not.1 fun h => of_decide_eq_false HT.out ((ξ73 x.name).2 h))
    go_wp2_with fail
    go_ret
    exact ⟨_, rfl, G5.out, ξ1.yes ⟨HA.out.1, HA.out.2.1, HA.out.2.2, HBd.out, HN.out, by have := HQ.out; rwa [List.take_length] at this⟩⟩
   ·have HN := ξ (show ¬ ξI n x.s from fun h => (ξ73 x.name).1 (of_decide_eq_true HT.out) h.2.2.2.2.1)
    go_wp2_with fail
    go_ret
    exact ⟨_, rfl, G5.out, ξ1.no HN.out⟩
theorem ξaI (w : World) (bp n m vc vd : Nat) (va vb : Option Addr) (x : RowM) (hn : n ≤ 1000000) (hb : ξ0 w bp #[.slice va n vc, .slice vb m vd]) (hx : ξ1G w x) (hi : RowI x.s) (hl : x.name.length ≤ 1000000) :
  Calls Tryz.prog 86 (#[rowV x] ++ #[.pointer (some ⟨bp, 0, none⟩)]) w (Ret w fun r _ => ξ1 (¬ ξI n x.s) r) := by
 show Calls _ _ #[rowV x, .pointer (some ⟨bp, 0, none⟩)] _ _
 have B := ξ0.new w #[.string ⟨x.name.toArray⟩, .int .i64 x.group, .int .i64 x.kind, .slice x.tp x.terms.length x.tc, .int .i64 x.bound] 42
 have HB := ξ B
 have HP := ξ (hb.grow B.1)
 have HX := ξ (show ξ1G _ x from SlL.grow hx B.1)
 have HI := ξ hi
 have y0 := HP.out.at 0 rfl
 have z0 := HB.out.2.at 0 rfl
 have z1 := HB.out.2.at 1 rfl
 have z2 := HB.out.2.at 2 rfl
 have z3 := HB.out.2.at 3 rfl
 have z4 := HB.out.2.at 4 rfl
 clear B hx hi hb
 unfold rowV
 go_enter Tryz.func86, Tryz.ntmps86
 go_wp2_with fail
 clear y0 z0 z1 z2 z3 z4
 refine (ξ8A _ n x hn HX.out HI.out hl).mono ?_
 rintro _ w2 ⟨r, rfl, g2, h⟩
 have G := ξ (HB.out.1.trans g2)
 clear g2
 rcases h.cases with ⟨rfl, k1⟩ | ⟨rfl, k1⟩
 ·have HN := ξ (show ¬ ¬ ξI n x.s from fun h => h k1)
  clear h k1
  go_wp2_with fail
  go_ret
  exact ⟨_, rfl, G.out, ξ1.no HN.out⟩
 ·have HN := ξ k1
  clear h k1
  go_wp2_with fail
  go_ret
  exact ⟨_, rfl, G.out, ξ1.yes HN.out⟩
theorem ξ5y (w : World) (v : Value) (p : Prg) (hp : ξC w v p) (hi : PrgI p) (hl : ∀ r ∈ p.rows, r.name.length ≤ 1000000) (hn : p.vars.length ≤ 1000000) (hm : p.rows.length ≤ 1000000) :
  Calls Tryz.prog 40 #[v] w (Ret w fun r _ => ξ1 (ξr p) r) := by
 have HI := ξ hi
 have HL := ξ hl
 clear hi hl
 obtain ⟨va, vc, vb, vd, rfl, hv, hr⟩ := hp
 have HV := ξ hv
 have HR := ξ hr
 obtain ⟨_, _, _, hvb1, hvb2⟩ := SlL.parts hv
 obtain ⟨_, _, _, hrb1, hrb2⟩ := hr.parts
 clear hv hr
 have B0 := ξ0.new w #[.slice va p.vars.length vc, .slice vb p.rows.length vd] 25
 have HB := ξ B0
 unfold prgV
 clear B0
 go_enter Tryz.func40, Tryz.ntmps40
 go_wp2_with fail
 any_goals (go_ret; exact ⟨_, rfl, HB.out.1, ξ1.no fun k => by have := k.1; have := k.2.1; omega⟩)
 have HA := ξ (show p.vars.length ≤ 400 ∧ p.rows.length ≤ 4000 by omega)
 generalize w.heap.size = bp at HB ⊢
 generalize w.alloc _ = W at HB ⊢
 have G := ξ HB.out.1
 have TP := ξ HB.out.2
 clear HB
 go_loopw [18] (fun i w9 => ∃ k : Nat, i = .int .i64 (k : Int) ∧ k ≤ p.vars.length ∧ (∀ (j : Nat) (x : VarM), j < k → p.vars[j]? = some x → ξ1I x) ∧ Gr W w9) (fun i _ => p.vars.length - (RowKit.intOf i).toNat)
 case atStart => exact ⟨0, rfl, Nat.zero_le _, fun j x hj => by omega, Gr.refl _⟩
 case round =>
  obtain ⟨k, rfl, hk, hq, hg⟩ := hrel
  have HQ := ξ hq
  have GL := ξ hg
  clear hq hg
  by_cases hlt : k < p.vars.length
  ·have hlt' : (k : Int) < (p.vars.length : Int) := by omega
   obtain ⟨b, o, t, rfl, ht, hc⟩ := ξ24 (SlL.grow HV.out (G.out.trans GL.out)) rfl hlt
   obtain ⟨c0, c1, c2, c3, c4⟩ := hc _ (Gr.refl _)
   have HT := ξ ht
   have HVI := ξ (HI.out.1 t (List.mem_of_getElem? ht))
   have hno := ξ (show ¬ ξ1I t → ¬ ξr p from fun h q => h (q.2.2.1 t (List.mem_of_getElem? ht)))
   have B2 := ξ0.new wr #[.int .i64 t.lo, .int .i64 t.up, .bool t.op, .bool t.ig, .int .i64 t.cost] 62
   have HB2 := ξ B2
   clear hc ht B2
   go_wp2_with fail
   clear c0 c1 c2 c3 c4
   have G2 := ξ (GL.out.trans HB2.out.1)
   have TV := ξ HB2.out.2
   clear HB2
   have hsz : (wr.alloc (.cells #[.int .i64 t.lo, .int .i64 t.up, .bool t.op, .bool t.ig, .int .i64 t.cost] 62)).heap.size = wr.heap.size + 1 := World.size_alloc ..
   rw [← hsz]
   clear hsz
   generalize wr.heap.size = bt at TV ⊢
   generalize wr.alloc _ = W2 at G2 TV ⊢
   have B3 := ξ0.new W2 #[.int .i64 t.lo, .int .i64 t.up, .int .i64 t.cost] 2
   refine (ξ3Y _ _ 3 3 [t.lo, t.up, t.cost] (ξ3t B3.2 rfl (by simp)) rfl (by decide)).mono ?_
   rintro _ W4 ⟨r, rfl, g4, h⟩
   have G2 := ξ (G2.out.trans (B3.1.trans g4))
   have TV := ξ (TV.out.grow (B3.1.trans g4))
   clear B3 g4
   have y1 := TV.out.at 1 rfl
   have y2 := TV.out.at 2 rfl
   rcases h.cases with ⟨rfl, k1⟩ | ⟨rfl, k1⟩
   rotate_left
   ·have H := ξ (hno.out (fun h => k1 (fun z hz => by
     simp only [List.mem_cons, List.not_mem_nil, or_false] at hz
     rcases hz with rfl | rfl | rfl
     ·exact h.1
     ·exact h.2.1
     ·exact h.2.2.1)))
    clear h k1
    go_wp2_with fail
    try rw [Exit.noGoto_ret]
    go_ret
    exact ⟨_, rfl, G.out.trans G2.out, ξ1.no H.out⟩
   have H1 := ξ (show In t.lo ∧ In t.up ∧ In t.cost from ⟨k1 _ (by simp), k1 _ (by simp), k1 _ (by simp)⟩)
   clear h k1
   have hk1 : IntKind.i64.wrap ((k : Int) + 1) = (k : Int) + 1 := by rw [IntKind.wrap_i64]; omega
   by_cases hbad : t.op = true ∧ t.up ≠ 0
   ·have e1 : t.op = true := hbad.1
    have e2 : (t.up != 0) = true := by simpa using hbad.2
    have H := ξ (hno.out (fun h => h.2.2.2 hbad))
    rw [e1] at y2
    clear hbad
    go_wp2_with fail
    try rw [Exit.noGoto_ret]
    go_ret
    exact ⟨_, rfl, G.out.trans G2.out, ξ1.no H.out⟩
   ·have HOK := ξ (show ξ1I t from ⟨H1.out.1, H1.out.2.1, H1.out.2.2, hbad⟩)
    have hnext : RowKit.Hid (∀ (j : Nat) (x : VarM), j < k + 1 → p.vars[j]? = some x → ξ1I x) := ξ fun j x hj hx => by
     by_cases e : j = k
     ·subst e
      rw [HT.out] at hx
      cases hx
      exact HOK.out
     ·exact HQ.out j x (by omega) hx
    obtain ⟨op, hop⟩ : ∃ b, t.op = b := ⟨_, rfl⟩
    rw [hop] at y2
    cases op
    ·clear hbad hop
     go_wp2_with fail
     exact ⟨⟨k + 1, by go_num, by omega, hnext.out, G2.out⟩, by simp [RowKit.intOf]; omega⟩
    ·have e2 : (t.up != 0) = false := by
      have : t.up = 0 := Classical.not_not.1 fun h => hbad ⟨hop, h⟩
      simpa using this
     clear hbad hop
     go_wp2_with fail
     exact ⟨⟨k + 1, by go_num, by omega, hnext.out, G2.out⟩, by simp [RowKit.intOf]; omega⟩
  ·obtain rfl : k = p.vars.length := by omega
   have HVS := ξ (show ∀ v ∈ p.vars, ξ1I v from fun v hv => by
    obtain ⟨i, hi, rfl⟩ := List.getElem_of_mem hv
    exact HQ.out i _ hi (List.getElem?_eq_getElem hi))
   have y1 := (TP.out.grow GL.out).at 1 rfl
   go_wp2_with fail
   clear y1
   obtain ⟨T, hT1, hT2, hT3⟩ := HR.out
   have hTl : T.length = p.rows.length := by rw [← hT2, List.length_map]
   have HT := ξ (And.intro hT2 hT3)
   have hin : ∀ y ∈ T, y.s ∈ p.rows := fun y hy => by rw [← hT2]; exact List.mem_map.2 ⟨y, hy, rfl⟩
   refine (ξ6r wr vb p.rows.length vd T (.func (.func 86) #[] #[.pointer (some ⟨bp, 0, none⟩)]) (fun y => ¬ ξI p.vars.length y.s) (SlL.grow hT1 (G.out.trans GL.out)) hTl (by omega)
    ⟨_, _, rfl, enters_of Tryz.func86 (by kernel_rfl) rfl, fun w' g y hy => ξaI w' bp p.vars.length p.rows.length vc vd va vb y hn (TP.out.grow (GL.out.trans g)) (SlL.grow (hT3 y hy) ((G.out.trans GL.out).trans g)) (HI.out.2 _ (hin y hy)) (HL.out _ (hin y hy))⟩).mono ?_
   rintro _ w5 ⟨r, rfl, g5, h⟩
   have G5 := ξ (G.out.trans (GL.out.trans g5))
   clear g5 hT1 hT2 hT3 hTl hin
   rcases h.cases with ⟨rfl, k1⟩ | ⟨rfl, k1⟩
   ·have HN := ξ (show ¬ ξr p from fun q => by
     obtain ⟨y, hy, k⟩ := k1
     exact k (q.2.2.2 _ (by rw [← HT.out.1]; exact List.mem_map.2 ⟨y, hy, rfl⟩)))
    clear h k1
    go_wp2_with fail
    go_ret
    exact ⟨_, rfl, G5.out, ξ1.no HN.out⟩
   ·have HN := ξ (show ξr p from ⟨HA.out.1, HA.out.2, HVS.out, fun r hr => by
     rw [← HT.out.1] at hr
     obtain ⟨y, hy, rfl⟩ := List.mem_map.1 hr
     exact Classical.not_not.1 fun h => k1 ⟨y, hy, h⟩⟩)
    clear h k1
    go_wp2_with fail
    go_ret
    exact ⟨_, rfl, G5.out, ξ1.yes HN.out⟩
end Prf
end Go.Proofs.YtcjgimlcefhhmaaGreatDoor

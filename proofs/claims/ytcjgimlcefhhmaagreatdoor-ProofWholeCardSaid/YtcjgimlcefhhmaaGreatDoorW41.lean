/- Texts: CuG. -/
import Derived.Test.YtcjgimlcefhhmaaGreatDoorW40
set_option linter.unusedVariables false
set_option linter.unusedSimpArgs false
set_option maxRecDepth 100000
set_option maxHeartbeats 12800000
namespace Go.Proofs.YtcjgimlcefhhmaaGreatDoor
namespace Prf
open Go.RowKit Go.Lib
theorem ξ4u.derive {p : Prg} {c : CutS} {base : Nat} {r : Value} {w : World} (hf : ξ0X p c) (h0 : c.kind = 0) (h : ξ4u p c.mult base r w) : ξ2Z p c base r w := by
 rcases h with ⟨h1, x, rfl, h2, h3⟩ | ⟨h1, e, he, rfl⟩
 ·exact .inl ⟨_, x, ⟨hf, .inl ⟨h0, h1, rfl⟩⟩, rfl, h2, h3⟩
 ·refine .inr ⟨fun rs h => ?_, e, he, rfl⟩
  rcases h.2 with ⟨_, h2, _⟩ | ⟨h2, _⟩
  ·exact h1 h2
  ·omega
theorem ξam (w : World) (v u : Value) (p : Prg) (c : CutS) (hp : ξC w v p) (hc : ξ1j w u c 4) (hcl : c.mult.length ≤ 16) (hcs : ∀ x ∈ c.mult, Sz 4 x) (hcv : c.vars.length ≤ 1000) (hk : ξr p) (hw : Whole p) (hn : p.vars.length ≤ 10) (hm : p.rows.length ≤ 40) :
  Calls Tryz.prog 148 #[v, u] w (Ret w (ξ2Z p c w.heap.size)) := by
 have HK := ξ hk
 have HW := ξ hw
 have HP := ξ hp
 have HCA := ξ hc
 have HCM := ξ (ξ7O hcs hcl hk.2.2.2 hk.2.2.1 hm hn)
 clear hk hw hcs
 obtain ⟨pm, nm, cm, pv, nv, cv, rfl, hmu, hva, rfl, rfl⟩ := hc.parts
 clear hc hmu hva
 obtain ⟨va, vc, vb, vd, rfl, hv, hr⟩ := hp
 obtain ⟨kd, hkd⟩ : ∃ z, c.kind = z := ⟨_, rfl⟩
 have HKD := ξ hkd
 rw [hkd] at HCA ⊢
 have B0 := ξ0.new w #[.slice va p.vars.length vc, .slice vb p.rows.length vd] 25
 have B1 := ξ0.new (w.alloc (.cells #[.slice va p.vars.length vc, .slice vb p.rows.length vd] 25)) #[.int .i64 kd, .slice pm c.mult.length cm, .int .i64 c.row, .slice pv c.vars.length cv] 45
 have B2 := ξ0.new ((w.alloc (.cells #[.slice va p.vars.length vc, .slice vb p.rows.length vd] 25)).alloc (.cells #[.int .i64 kd, .slice pm c.mult.length cm, .int .i64 c.row, .slice pv c.vars.length cv] 45)) rowZ 42
 simp only [World.size_alloc] at B1 B2
 unfold rowZ at B2
 have HB := ξ (show _ ∧ ξ0 _ _ #[.slice va p.vars.length vc, .slice vb p.rows.length vd] ∧ ξ0 _ _ #[.int .i64 kd, .slice pm c.mult.length cm, .int .i64 c.row, .slice pv c.vars.length cv] ∧ ξ0 _ _ #[.string ⟨#[]⟩, .int .i64 0, .int .i64 0, .slice none 0 0, .int .i64 0] from ⟨B0.1.trans (B1.1.trans B2.1), B0.2.grow (B1.1.trans B2.1), B1.2.grow B2.1, B2.2⟩)
 clear hv hr B0 B1 B2 hkd
 unfold prgV at HP ⊢
 go_enter Tryz.func148, Tryz.ntmps148
 go_wp2_with fail
 generalize hb4 : w.heap.size + 1 + 1 = b4 at HB ⊢
 generalize hbc : w.heap.size + 1 = bc at HB ⊢
 generalize hbp : w.heap.size = bp at HB ⊢
 generalize ((w.alloc _).alloc _).alloc _ = W at HB ⊢
 have HB4 := ξ (show w.heap.size ≤ b4 from by omega)
 clear hb4 hbc hbp
 have hmk := run_makeMap (P := Tryz.prog) 222 W
 have hs0 := ξj (P := Tryz.prog) (w := W) (es := #[]) (c := 0) (t := 222) (key := .int .i64 0) (.func (.func 205) #[] #[]) Tryz.underlying222 Tryz.underlying3 ξG rfl rfl
 have hs1 := ξj (P := Tryz.prog) (w := W) (es := #[{ key := .int .i64 0, val := .func (.func 205) #[] #[], born := 0 }]) (c := 1) (t := 222) (key := .int .i64 1) (.func (.func 206) #[] #[]) Tryz.underlying222 Tryz.underlying3 ξG (ξ6I _) rfl
 simp only [List.push_toArray, List.nil_append, List.cons_append, Array.push_empty, Nat.zero_add, Nat.reduceAdd] at hs0 hs1
 have gm : Gr W (W.alloc (.map #[{ key := .int .i64 0, val := .func (.func 205) #[] #[], born := 0 }, { key := .int .i64 1, val := .func (.func 206) #[] #[], born := 1 }] 2)) := (Gr.refl _).alloc _
 have HM := ξ (show ξ0P (W.alloc (.map #[{ key := .int .i64 0, val := .func (.func 205) #[] #[], born := 0 }, { key := .int .i64 1, val := .func (.func 206) #[] #[], born := 1 }] 2)) W.heap.size (two01 (.func (.func 205) #[] #[]) (.func (.func 206) #[] #[])) from ⟨_, _, (MapKept.heap_alloc W _).1, rfl⟩)
 have TC := ξ (HB.out.2.2.1.grow gm)
 have TP := ξ (HB.out.2.1.grow gm)
 have T4 := ξ (HB.out.2.2.2.grow gm)
 have G := ξ (HB.out.1.trans gm)
 have x0 := TC.out.at 0 rfl
 have x1 := TC.out.at 1 rfl
 have x2 := TC.out.at 2 rfl
 have x3 := TC.out.at 3 rfl
 have y0 := TP.out.at 0 rfl
 have y1 := TP.out.at 1 rfl
 clear gm HB
 rw [hmk]
 go_wp2_with fail
 clear hmk hs0 hs1 x0 x1 x2 x3 y0 y1
 generalize W.heap.size = bm at HM ⊢
 generalize W.alloc _ = W1 at HM TC TP T4 G ⊢
 refine (ξcL W1 _ _ p c (HP.out.grow G.out) (by have h := HCA.out.grow G.out; exact h) hcv).mono ?_
 rintro _ w3 ⟨r3, rfl, g3, h3⟩
 have TC := ξ (TC.out.grow g3)
 have TP := ξ (TP.out.grow g3)
 have T4 := ξ (T4.out.grow g3)
 have G := ξ (G.out.trans g3)
 rcases h3.cases with ⟨rfl, k3⟩ | ⟨rfl, k3⟩
 rotate_left
 ·have H := ξ (show ∀ rs, ¬ ξ0m p c rs from fun rs h => k3 h.1)
  clear h3 k3 g3
  have c0 := T4.out.at 0 rfl
  have c1 := T4.out.at 1 rfl
  have c2 := T4.out.at 2 rfl
  have c3 := T4.out.at 3 rfl
  have c4 := T4.out.at 4 rfl
  have f0 := ξ0.f (T4.out) 0
  have f1 := ξ0.f (T4.out) 1
  have f2 := ξ0.f (T4.out) 2
  have f3 := ξ0.f (T4.out) 3
  have f4 := ξ0.f (T4.out) 4
  have HXX := ξ (fill5 (.string ⟨#[]⟩) (.int .i64 0) (.int .i64 0) (.slice none 0 0) (.int .i64 0) (T4.out) (G.out) HB4.out)
  go_wp2_with fail
  try rw [Exit.noGoto_ret]
  generalize ((((w3.setCell _ _).setCell _ _).setCell _ _).setCell _ _).setCell _ _ = W5 at HXX ⊢
  clear c0 c1 c2 c3 c4 f0 f1 f2 f3 f4
  have z0 := HXX.out.2.1.at 0 rfl
  have z1 := HXX.out.2.1.at 1 rfl
  have z2 := HXX.out.2.1.at 2 rfl
  have z3 := HXX.out.2.1.at 3 rfl
  have z4 := HXX.out.2.1.at 4 rfl
  refine bodyPost_ret (by simp [results, Tryz.results148, go_sem, z0, z1, z2, z3, z4]; rfl) rfl ?_
  exact ⟨_, rfl, HXX.out.1, .inr ⟨H.out, 1, by first | decide | exact HEE.out, rfl⟩⟩
 have HF := ξ k3
 clear h3 k3
 by_cases h0 : kd = 0
 ·subst h0
  have hl := (ξz (HM.out.grow g3) Tryz.underlying222 Tryz.underlying3 ξG (ξbb _ _)).1
  have x0' := TC.out.at 0 rfl
  have x1' := TC.out.at 1 rfl
  have x2' := TC.out.at 2 rfl
  have x3' := TC.out.at 3 rfl
  have y0' := TP.out.at 0 rfl
  have y1' := TP.out.at 1 rfl
  go_wp2_with fail
  clear hl x0' x1' x2' x3' y0' y1'
  refine (ξbi w3 _ _ p c (HP.out.grow G.out) (by have h := HCA.out.grow G.out; exact h) HCM.out HK.out HW.out hn).mono ?_
  rintro _ w4 ⟨r4, rfl, g4, h4⟩
  have h4 := h4.derive HF.out HKD.out
  have hlt4 := T4.out.lt
  have hsz4 := G.out.size
  have T4 := ξ (T4.out.grow g4)
  have G := ξ (G.out.trans g4)
  clear g4 g3
  rcases h4 with ⟨rs, x, hd, rfl, hxs, hxt⟩ | ⟨hno, e, he, rfl⟩
  ·have HX := ξ (And.intro hd (And.intro hxs hxt))
   have HLT := ξ (show b4 < w3.heap.size ∧ w.heap.size ≤ w3.heap.size from ⟨hlt4, hsz4⟩)
   have c0 := T4.out.at 0 rfl
   have c1 := T4.out.at 1 rfl
   have c2 := T4.out.at 2 rfl
   have c3 := T4.out.at 3 rfl
   have c4 := T4.out.at 4 rfl
   have f0 := ξ0.f T4.out 0
   have f1 := ξ0.f T4.out 1
   have f2 := ξ0.f T4.out 2
   have f3 := ξ0.f T4.out 3
   have f4 := ξ0.f T4.out 4
   have hf := fill5 (.string ⟨x.name.toArray⟩) (.int .i64 x.group) (.int .i64 x.kind) (.slice x.tp x.terms.length x.tc) (.int .i64 x.bound) T4.out G.out HB4.out
   have HXX := ξ (show _ ∧ _ ∧ ξn _ w3.heap.size (.slice x.tp x.terms.length x.tc) x.terms from ⟨hf.1, hf.2.1, HX.out.2.2.same hf.2.2 (by simp [World.setCell]) (fun e => by
    have h1 := (World.ownsRow.lt HX.out.2.2.1 _ e).1
    have h2 := HLT.out
    omega) rfl rfl rfl⟩)
   clear hf hd hxs hxt
   unfold rowV
   go_wp2_with fail
   try rw [Exit.noGoto_ret]
   generalize ((((w4.setCell _ _).setCell _ _).setCell _ _).setCell _ _).setCell _ _ = W5 at HXX ⊢
   clear c0 c1 c2 c3 c4 f0 f1 f2 f3 f4
   have z0 := HXX.out.2.1.at 0 rfl
   have z1 := HXX.out.2.1.at 1 rfl
   have z2 := HXX.out.2.1.at 2 rfl
   have z3 := HXX.out.2.1.at 3 rfl
   have z4 := HXX.out.2.1.at 4 rfl
   refine bodyPost_ret (by simp [results, Tryz.results148, go_sem, z0, z1, z2, z3, z4]; rfl) rfl ?_
   exact ⟨_, rfl, HXX.out.1, .inl ⟨rs, x, HX.out.1, rfl, HX.out.2.1, HXX.out.2.2.lower HLT.out.2⟩⟩
  ·have H := ξ hno
   have HEE := ξ he
   clear hno he
   unfold rowZ
   have c0 := T4.out.at 0 rfl
   have c1 := T4.out.at 1 rfl
   have c2 := T4.out.at 2 rfl
   have c3 := T4.out.at 3 rfl
   have c4 := T4.out.at 4 rfl
   have f0 := ξ0.f (T4.out) 0
   have f1 := ξ0.f (T4.out) 1
   have f2 := ξ0.f (T4.out) 2
   have f3 := ξ0.f (T4.out) 3
   have f4 := ξ0.f (T4.out) 4
   have HXX := ξ (fill5 (.string ⟨#[]⟩) (.int .i64 0) (.int .i64 0) (.slice none 0 0) (.int .i64 0) (T4.out) (G.out) HB4.out)
   go_wp2_with fail
   try rw [Exit.noGoto_ret]
   generalize ((((w4.setCell _ _).setCell _ _).setCell _ _).setCell _ _).setCell _ _ = W5 at HXX ⊢
   clear c0 c1 c2 c3 c4 f0 f1 f2 f3 f4
   have z0 := HXX.out.2.1.at 0 rfl
   have z1 := HXX.out.2.1.at 1 rfl
   have z2 := HXX.out.2.1.at 2 rfl
   have z3 := HXX.out.2.1.at 3 rfl
   have z4 := HXX.out.2.1.at 4 rfl
   refine bodyPost_ret (by simp [results, Tryz.results148, go_sem, z0, z1, z2, z3, z4]; rfl) rfl ?_
   exact ⟨_, rfl, HXX.out.1, .inr ⟨H.out, e, by first | decide | exact HEE.out, rfl⟩⟩
 ·have h1 : kd = 1 := by
   rcases HF.out with h | h
   ·exact absurd (by rw [← HKD.out]; exact h.1) h0
   ·rw [← HKD.out]; exact h.1
  subst h1
  clear h0
  have hl := (ξz (HM.out.grow g3) Tryz.underlying222 Tryz.underlying3 ξG (ξb9 _ _)).1
  have x0' := TC.out.at 0 rfl
  have x1' := TC.out.at 1 rfl
  have x2' := TC.out.at 2 rfl
  have x3' := TC.out.at 3 rfl
  have y0' := TP.out.at 0 rfl
  have y1' := TP.out.at 1 rfl
  go_wp2_with fail
  clear hl x0' x1' x2' x3' y0' y1'
  refine (ξbR w3 _ _ p c (HP.out.grow G.out) (by have h := HCA.out.grow G.out; exact h) HF.out HKD.out hcv HK.out HW.out hn).mono ?_
  rintro _ w4 ⟨r4, rfl, g4, h4⟩
  have hlt4 := T4.out.lt
  have hsz4 := G.out.size
  have T4 := ξ (T4.out.grow g4)
  have G := ξ (G.out.trans g4)
  clear g4 g3
  rcases h4 with ⟨rs, x, hd, rfl, hxs, hxt⟩ | ⟨hno, e, he, rfl⟩
  ·have HX := ξ (And.intro hd (And.intro hxs hxt))
   have HLT := ξ (show b4 < w3.heap.size ∧ w.heap.size ≤ w3.heap.size from ⟨hlt4, hsz4⟩)
   have c0 := T4.out.at 0 rfl
   have c1 := T4.out.at 1 rfl
   have c2 := T4.out.at 2 rfl
   have c3 := T4.out.at 3 rfl
   have c4 := T4.out.at 4 rfl
   have f0 := ξ0.f T4.out 0
   have f1 := ξ0.f T4.out 1
   have f2 := ξ0.f T4.out 2
   have f3 := ξ0.f T4.out 3
   have f4 := ξ0.f T4.out 4
   have hf := fill5 (.string ⟨x.name.toArray⟩) (.int .i64 x.group) (.int .i64 x.kind) (.slice x.tp x.terms.length x.tc) (.int .i64 x.bound) T4.out G.out HB4.out
   have HXX := ξ (show _ ∧ _ ∧ ξn _ w3.heap.size (.slice x.tp x.terms.length x.tc) x.terms from ⟨hf.1, hf.2.1, HX.out.2.2.same hf.2.2 (by simp [World.setCell]) (fun e => by
    have h1 := (World.ownsRow.lt HX.out.2.2.1 _ e).1
    have h2 := HLT.out
    omega) rfl rfl rfl⟩)
   clear hf hd hxs hxt
   unfold rowV
   go_wp2_with fail
   try rw [Exit.noGoto_ret]
   generalize ((((w4.setCell _ _).setCell _ _).setCell _ _).setCell _ _).setCell _ _ = W5 at HXX ⊢
   clear c0 c1 c2 c3 c4 f0 f1 f2 f3 f4
   have z0 := HXX.out.2.1.at 0 rfl
   have z1 := HXX.out.2.1.at 1 rfl
   have z2 := HXX.out.2.1.at 2 rfl
   have z3 := HXX.out.2.1.at 3 rfl
   have z4 := HXX.out.2.1.at 4 rfl
   refine bodyPost_ret (by simp [results, Tryz.results148, go_sem, z0, z1, z2, z3, z4]; rfl) rfl ?_
   exact ⟨_, rfl, HXX.out.1, .inl ⟨rs, x, HX.out.1, rfl, HX.out.2.1, HXX.out.2.2.lower HLT.out.2⟩⟩
  ·have H := ξ hno
   have HEE := ξ he
   clear hno he
   unfold rowZ
   have c0 := T4.out.at 0 rfl
   have c1 := T4.out.at 1 rfl
   have c2 := T4.out.at 2 rfl
   have c3 := T4.out.at 3 rfl
   have c4 := T4.out.at 4 rfl
   have f0 := ξ0.f (T4.out) 0
   have f1 := ξ0.f (T4.out) 1
   have f2 := ξ0.f (T4.out) 2
   have f3 := ξ0.f (T4.out) 3
   have f4 := ξ0.f (T4.out) 4
   have HXX := ξ (fill5 (.string ⟨#[]⟩) (.int .i64 0) (.int .i64 0) (.slice none 0 0) (.int .i64 0) (T4.out) (G.out) HB4.out)
   go_wp2_with fail
   try rw [Exit.noGoto_ret]
   generalize ((((w4.setCell _ _).setCell _ _).setCell _ _).setCell _ _).setCell _ _ = W5 at HXX ⊢
   clear c0 c1 c2 c3 c4 f0 f1 f2 f3 f4
   have z0 := HXX.out.2.1.at 0 rfl
   have z1 := HXX.out.2.1.at 1 rfl
   have z2 := HXX.out.2.1.at 2 rfl
   have z3 := HXX.out.2.1.at 3 rfl
   have z4 := HXX.out.2.1.at 4 rfl
   refine bodyPost_ret (by simp [results, Tryz.results148, go_sem, z0, z1, z2, z3, z4]; rfl) rfl ?_
   exact ⟨_, rfl, HXX.out.1, .inr ⟨H.out, e, by first | decide | exact HEE.out, rfl⟩⟩
theorem ξaD (w : World) (v u : Value) (p : Prg) (c : CutS) (hp : ξC w v p) (hc : ξ1j w u c 4) (hcl : c.mult.length ≤ 16) (hcs : ∀ x ∈ c.mult, Sz 4 x) (hcv : c.vars.length ≤ 1000) (hk : ξr p) (hw : Whole p) (hn : p.vars.length ≤ 10) (hm : p.rows.length ≤ 40) :
  Calls Tryz.prog 96 #[v, u] w (Ret w (ξ2Z p c w.heap.size)) := by
 have HK := ξ hk
 have HW := ξ hw
 have HP := ξ hp
 have HCA := ξ hc
 have HCS := ξ hcs
 clear hk hw hcs
 obtain ⟨pm, nm, cm, pv, nv, cv, rfl, hmu, hva, rfl, rfl⟩ := hc.parts
 clear hc hmu hva
 obtain ⟨va, vc, vb, vd, rfl, hv, hr⟩ := hp
 have B0 := ξ0.new w #[.slice va p.vars.length vc, .slice vb p.rows.length vd] 25
 have B1 := ξ0.new (w.alloc (.cells #[.slice va p.vars.length vc, .slice vb p.rows.length vd] 25)) #[.int .i64 c.kind, .slice pm c.mult.length cm, .int .i64 c.row, .slice pv c.vars.length cv] 45
 have B2 := ξ0.new ((w.alloc (.cells #[.slice va p.vars.length vc, .slice vb p.rows.length vd] 25)).alloc (.cells #[.int .i64 c.kind, .slice pm c.mult.length cm, .int .i64 c.row, .slice pv c.vars.length cv] 45)) rowZ 42
 simp only [World.size_alloc] at B1 B2
 unfold rowZ at B2
 have HB := ξ (show _ ∧ ξ0 _ _ #[.slice va p.vars.length vc, .slice vb p.rows.length vd] ∧ ξ0 _ _ #[.int .i64 c.kind, .slice pm c.mult.length cm, .int .i64 c.row, .slice pv c.vars.length cv] ∧ ξ0 _ _ #[.string ⟨#[]⟩, .int .i64 0, .int .i64 0, .slice none 0 0, .int .i64 0] from ⟨B0.1.trans (B1.1.trans B2.1), B0.2.grow (B1.1.trans B2.1), B1.2.grow B2.1, B2.2⟩)
 clear hv hr B0 B1 B2
 unfold prgV at HP ⊢
 go_enter Tryz.func96, Tryz.ntmps96
 go_wp2_with fail
 generalize hb4 : w.heap.size + 1 + 1 = b4 at HB ⊢
 generalize hbc : w.heap.size + 1 = bc at HB ⊢
 generalize hbp : w.heap.size = bp at HB ⊢
 generalize ((w.alloc _).alloc _).alloc _ = W at HB ⊢
 have HB4 := ξ (show w.heap.size ≤ b4 from by omega)
 have TC := ξ HB.out.2.2.1
 have TP := ξ HB.out.2.1
 have T4 := ξ HB.out.2.2.2
 have G := ξ HB.out.1
 clear hb4 hbc hbp HB
 refine (ξ5y W _ p (HP.out.grow G.out) (ξr.i HK.out) (ξr.nl HK.out) (by omega) (by omega)).mono ?_
 rintro _ w1 ⟨r1, rfl, g1, h1⟩
 rcases h1.cases with ⟨rfl, k1⟩ | ⟨rfl, k1⟩
 rotate_left
 ·exact absurd HK.out k1
 have TC := ξ (TC.out.grow g1)
 have TP := ξ (TP.out.grow g1)
 have T4 := ξ (T4.out.grow g1)
 have G := ξ (G.out.trans g1)
 have x0 := TC.out.at 0 rfl
 have x1 := TC.out.at 1 rfl
 have x2 := TC.out.at 2 rfl
 have x3 := TC.out.at 3 rfl
 have y0 := TP.out.at 0 rfl
 have y1 := TP.out.at 1 rfl
 clear h1 k1 g1
 go_wp2_with fail
 clear x0 x1 x2 x3 y0 y1
 refine (ξam w1 _ _ p c (HP.out.grow G.out) (HCA.out.grow G.out) hcl HCS.out hcv HK.out HW.out hn hm).mono ?_
 rintro _ w4 ⟨r4, rfl, g4, h4⟩
 have hlt4 := T4.out.lt
 have hsz4 := G.out.size
 have T4 := ξ (T4.out.grow g4)
 have G := ξ (G.out.trans g4)
 clear g4
 rcases h4 with ⟨rs, x, hd, rfl, hxs, hxt⟩ | ⟨hno, e, he, rfl⟩
 ·have HX := ξ (And.intro hd (And.intro hxs hxt))
  have HLT := ξ (show b4 < w1.heap.size ∧ w.heap.size ≤ w1.heap.size from ⟨hlt4, hsz4⟩)
  have c0 := T4.out.at 0 rfl
  have c1 := T4.out.at 1 rfl
  have c2 := T4.out.at 2 rfl
  have c3 := T4.out.at 3 rfl
  have c4 := T4.out.at 4 rfl
  have f0 := ξ0.f T4.out 0
  have f1 := ξ0.f T4.out 1
  have f2 := ξ0.f T4.out 2
  have f3 := ξ0.f T4.out 3
  have f4 := ξ0.f T4.out 4
  have hf := fill5 (.string ⟨x.name.toArray⟩) (.int .i64 x.group) (.int .i64 x.kind) (.slice x.tp x.terms.length x.tc) (.int .i64 x.bound) T4.out G.out HB4.out
  have HXX := ξ (show _ ∧ _ ∧ ξn _ w1.heap.size (.slice x.tp x.terms.length x.tc) x.terms from ⟨hf.1, hf.2.1, HX.out.2.2.same hf.2.2 (by simp [World.setCell]) (fun e => by
   have h1 := (World.ownsRow.lt HX.out.2.2.1 _ e).1
   have h2 := HLT.out
   omega) rfl rfl rfl⟩)
  clear hf hd hxs hxt
  unfold rowV
  go_wp2_with fail
  try rw [Exit.noGoto_ret]
  generalize ((((w4.setCell _ _).setCell _ _).setCell _ _).setCell _ _).setCell _ _ = W5 at HXX ⊢
  clear c0 c1 c2 c3 c4 f0 f1 f2 f3 f4
  have z0 := HXX.out.2.1.at 0 rfl
  have z1 := HXX.out.2.1.at 1 rfl
  have z2 := HXX.out.2.1.at 2 rfl
  have z3 := HXX.out.2.1.at 3 rfl
  have z4 := HXX.out.2.1.at 4 rfl
  refine bodyPost_ret (by simp [results, Tryz.results96, go_sem, z0, z1, z2, z3, z4]; rfl) rfl ?_
  exact ⟨_, rfl, HXX.out.1, .inl ⟨rs, x, HX.out.1, rfl, HX.out.2.1, HXX.out.2.2.lower HLT.out.2⟩⟩
 ·have H := ξ hno
  have HEE := ξ he
  clear hno he
  unfold rowZ
  have c0 := T4.out.at 0 rfl
  have c1 := T4.out.at 1 rfl
  have c2 := T4.out.at 2 rfl
  have c3 := T4.out.at 3 rfl
  have c4 := T4.out.at 4 rfl
  have f0 := ξ0.f (T4.out) 0
  have f1 := ξ0.f (T4.out) 1
  have f2 := ξ0.f (T4.out) 2
  have f3 := ξ0.f (T4.out) 3
  have f4 := ξ0.f (T4.out) 4
  have HXX := ξ (fill5 (.string ⟨#[]⟩) (.int .i64 0) (.int .i64 0) (.slice none 0 0) (.int .i64 0) (T4.out) (G.out) HB4.out)
  go_wp2_with fail
  try rw [Exit.noGoto_ret]
  generalize ((((w4.setCell _ _).setCell _ _).setCell _ _).setCell _ _).setCell _ _ = W5 at HXX ⊢
  clear c0 c1 c2 c3 c4 f0 f1 f2 f3 f4
  have z0 := HXX.out.2.1.at 0 rfl
  have z1 := HXX.out.2.1.at 1 rfl
  have z2 := HXX.out.2.1.at 2 rfl
  have z3 := HXX.out.2.1.at 3 rfl
  have z4 := HXX.out.2.1.at 4 rfl
  refine bodyPost_ret (by simp [results, Tryz.results96, go_sem, z0, z1, z2, z3, z4]; rfl) rfl ?_
  exact ⟨_, rfl, HXX.out.1, .inr ⟨H.out, e, by first | decide | exact HEE.out, rfl⟩⟩
end Prf
end Go.Proofs.YtcjgimlcefhhmaaGreatDoor

/- Texts: CuC. -/
import Derived.Test.YtcjgimlcefhhmaaGreatDoorW36
set_option linter.unusedVariables false
set_option linter.unusedSimpArgs false
set_option maxRecDepth 100000
set_option maxHeartbeats 12800000
namespace Go.Proofs.YtcjgimlcefhhmaaGreatDoor
namespace Prf
open Go.RowKit Go.Lib
theorem ξbR (w : World) (v u : Value) (p : Prg) (c : CutS) (hp : ξC w v p) (hc : ξ1j w u c 4) (hf : ξ0X p c) (hk1 : c.kind = 1) (hcv : c.vars.length ≤ 1000) (hk : ξr p) (hw : Whole p) (hn : p.vars.length ≤ 10) :
  Calls Tryz.prog 206 #[v, u] w (Ret w (ξ2Z p c w.heap.size)) := by
 have HK := ξ hk
 have HW := ξ hw
 have HP := ξ hp
 have HF := ξ hf
 have hm := hk.2.1
 obtain ⟨-, -, hr0, hr1, hne, -, hbi⟩ : c.kind = 1 ∧ c.mult = [] ∧ 0 ≤ c.row ∧ c.row < (p.rows.length : Int) ∧ c.vars ≠ [] ∧ IncI (-1) c.vars ∧ ∀ v ∈ c.vars, ξ0n p v := by
  rcases hf with h | h
  ·have := h.1; omega
  ·exact h
 obtain ⟨rk, hrk⟩ : ∃ n : Nat, c.row = (n : Int) := ⟨c.row.toNat, by omega⟩
 have hrl : rk < p.rows.length := by omega
 have hrl' : (rk : Int) < (p.rows.length : Int) := by omega
 have HBI := ξ hbi
 have HNE := ξ hne
 have HK1 := ξ hk1
 have HRK := ξ hrk
 obtain ⟨pm, nm, cm, pv, nv, cv, rfl, hmu, hva, rfl, rfl⟩ := hc.parts
 have HVA := ξ hva
 clear hc hmu hva hk hw hf hbi hne hk1 hr0 hr1 hrk
 obtain ⟨va, vc, vb, vd, rfl, hv, hr⟩ := hp
 have HR := ξ hr
 have B0 := ξ0.new w #[.slice va p.vars.length vc, .slice vb p.rows.length vd] 25
 have B1 := ξ0.new (w.alloc (.cells #[.slice va p.vars.length vc, .slice vb p.rows.length vd] 25)) #[.int .i64 c.kind, .slice pm c.mult.length cm, .int .i64 c.row, .slice pv c.vars.length cv] 45
 have B2 := ξ0.new ((w.alloc (.cells #[.slice va p.vars.length vc, .slice vb p.rows.length vd] 25)).alloc (.cells #[.int .i64 c.kind, .slice pm c.mult.length cm, .int .i64 c.row, .slice pv c.vars.length cv] 45)) rowZ 42
 simp only [World.size_alloc] at B1 B2
 unfold rowZ at B2
 have HB := ξ (show _ ∧ ξ0 _ _ #[.slice va p.vars.length vc, .slice vb p.rows.length vd] ∧ ξ0 _ _ #[.int .i64 c.kind, .slice pm c.mult.length cm, .int .i64 c.row, .slice pv c.vars.length cv] ∧ ξ0 _ _ #[.string ⟨#[]⟩, .int .i64 0, .int .i64 0, .slice none 0 0, .int .i64 0] from ⟨B0.1.trans (B1.1.trans B2.1), B0.2.grow (B1.1.trans B2.1), B1.2.grow B2.1, B2.2⟩)
 clear hv hr B0 B1 B2
 unfold prgV at HP ⊢
 go_enter Tryz.func206, Tryz.ntmps206
 go_wp2_with fail
 generalize hb4 : w.heap.size + 1 + 1 = b4 at HB ⊢
 generalize hbc : w.heap.size + 1 = bc at HB ⊢
 generalize hbp : w.heap.size = bp at HB ⊢
 generalize ((w.alloc _).alloc _).alloc _ = W at HB ⊢
 have HB4 := ξ (show w.heap.size ≤ b4 from by omega)
 have HN4 := ξ (show bc ≠ b4 from by omega)
 clear hb4 hbc hbp
 obtain ⟨b, o, x, rfl, hx, hin, hcx⟩ := HR.out.at hrl
 have HX := ξ hx
 have HIN := ξ hin
 have c0 := fun w' g => (hcx w' (HB.out.1.trans g)).1
 have c1 := fun w' g => (hcx w' (HB.out.1.trans g)).2.1
 have c2 := fun w' g => (hcx w' (HB.out.1.trans g)).2.2.1
 have c3 := fun w' g => (hcx w' (HB.out.1.trans g)).2.2.2.1
 have c4 := fun w' g => (hcx w' (HB.out.1.trans g)).2.2.2.2
 have y0 := HB.out.2.1.c 0 rfl
 have y1 := HB.out.2.1.c 1 rfl
 have x2 : ∀ w', Gr W w' → w'.cell? ⟨bc, 2, none⟩ = some (.int .i64 (rk : Int)) := by rw [← HRK.out]; exact HB.out.2.2.1.c 2 rfl
 have x3 := HB.out.2.2.1.c 3 rfl
 have g0 : Gr W W.drew := (Gr.refl _).drew
 have GZ := ξ g0
 clear hx hin hcx
 refine ξ3 [(0, true), (1, true), (2, true), (3, true), (4, true), (5, true), (6, true), (7, true), (8, true), (9, false), (10, true)] (by kernel_rfl) (by kernel_rfl) rfl (by kernel_rfl) (fun _ _ d _ _ h => by cases d <;> exact h) ?_
 repeat (refine ξ2 (v := ?_) g0 rfl rfl (fun w' hg => ?_) (fun K hK => ?_); rotate_left; (go_simp; rfl); go_simp; refine hK _ _ ?_; clear hK K)
 refine ξ7 (args := ?_) rfl rfl rfl rfl rfl rfl (by kernel_rfl) (by kernel_rfl) ?_ (fun K hK => ?_)
 rotate_left
 ·go_simp; rfl
 refine (ξaa _ _ p x c.vars pv cv (HP.out.grow (HB.out.1.trans GZ.out)) (SlL.grow HIN.out (HB.out.1.trans GZ.out)) (HK.out.2.2.2 _ (List.mem_of_getElem? HX.out)) HK.out HW.out hn HBI.out (HVA.out.grow (HB.out.1.trans GZ.out)) HNE.out (by omega)).mono ?_
 rintro _ w3 ⟨r3, rfl, g3, h3⟩
 refine ⟨_, rfl, g3, ?_⟩
 go_simp
 refine hK _ _ ?_
 clear hK K
 have GZ := ξ (GZ.out.trans g3)
 have g4 := GZ.out
 rcases h3.cases with ⟨rfl, k3⟩ | ⟨rfl, k3⟩
 rotate_left
 ·have H := ξ (show ∀ rs, ¬ ξ0m p c rs from fun rt h => by
   rcases h.2 with ⟨h1, _⟩ | ⟨_, ⟨z, hz, hc⟩, _⟩
   ·have := HK1.out; omega
   ·have e : c.row.toNat = rk := by have := HRK.out; omega
    rw [e, HX.out] at hz
    obtain rfl := Option.some.inj hz
    exact k3 hc)
  repeat (refine ξ2 (v := ?_) g4 rfl rfl (fun w' hg => ?_) (fun K hK => ?_); rotate_left; (go_simp; rfl); go_simp; refine hK _ _ ?_; clear hK K)
  refine ξ9 ?_
  have G := ξ (HB.out.1.trans GZ.out)
  have T4 := ξ (HB.out.2.2.2.grow GZ.out)
  clear h3 k3 g3 g0 g4 c0 c1 c2 c3 c4 y0 y1 x2 x3
  have c0 := T4.out.at 0 rfl
  have c1 := T4.out.at 1 rfl
  have c2 := T4.out.at 2 rfl
  have c3 := T4.out.at 3 rfl
  have c4 := T4.out.at 4 rfl
  have f0 := ξ0.f (T4.out) 0
  have f1 := ξ0.f (T4.out) 1
  have f2 := ξ0.f (T4.out) 2
  have f3 := ξ0.f (T4.out) 3
  have f4 := ξ0.f (T4.out) 4
  have HXX := ξ (fill5 (.string ⟨#[]⟩) (.int .i64 0) (.int .i64 0) (.slice none 0 0) (.int .i64 0) (T4.out) (G.out) HB4.out)
  go_wp2_with fail
  try rw [Exit.noGoto_ret]
  generalize ((((w3.setCell _ _).setCell _ _).setCell _ _).setCell _ _).setCell _ _ = W5 at HXX ⊢
  clear c0 c1 c2 c3 c4 f0 f1 f2 f3 f4
  have z0 := HXX.out.2.1.at 0 rfl
  have z1 := HXX.out.2.1.at 1 rfl
  have z2 := HXX.out.2.1.at 2 rfl
  have z3 := HXX.out.2.1.at 3 rfl
  have z4 := HXX.out.2.1.at 4 rfl
  refine bodyPost_ret (by simp [results, Tryz.results206, go_sem, z0, z1, z2, z3, z4]; rfl) rfl ?_
  exact ⟨_, rfl, HXX.out.1, .inr ⟨H.out, 13, by first | decide | exact HEE.out, rfl⟩⟩
 have HD := ξ (show ξ0m p c (coverRow c.vars) from ⟨HF.out, .inr ⟨HK1.out, ⟨x.s, by rw [show c.row.toNat = rk from by have := HRK.out; omega]; exact HX.out, k3⟩, rfl⟩⟩)
 repeat (refine ξ2 (v := ?_) g4 rfl rfl (fun w' hg => ?_) (fun K hK => ?_); rotate_left; (go_simp; rfl); go_simp; refine hK _ _ ?_; clear hK K)
 refine ξ9 ?_
 have G := ξ (HB.out.1.trans GZ.out)
 have TC := ξ (HB.out.2.2.1.grow GZ.out)
 have T4 := ξ (HB.out.2.2.2.grow GZ.out)
 clear h3 k3 g3 g0 g4 c0 c1 c2 c3 c4 y0 y1 x2 x3 HB GZ
 have x3 := TC.out.at 3 rfl
 have hl1 : IntKind.i64.wrap ((c.vars.length : Int) - 1) = (c.vars.length : Int) - 1 := by rw [IntKind.wrap_i64]; omega
 have B6 := ξ0.new w3 #[.string ⟨cutName.toArray⟩, .int .i64 0, .int .i64 0, .slice none 0 0, .int .i64 ((c.vars.length : Int) - 1)] 42
 have HS0 := ξ (show ξ2h w _ bc b4 w3.heap.size #[.int .i64 c.kind, .slice pm c.mult.length cm, .int .i64 c.row, .slice pv c.vars.length cv] ((c.vars.length : Int) - 1) (.slice none 0 0) ((c.vars.take 0).map fun v => (⟨v, 1⟩ : ξ8)) from
  ⟨G.out.trans B6.1, TC.out.grow B6.1, T4.out.grow B6.1, B6.2, ξn.nil _ _, fun b h => by cases h⟩)
 have HN6 := ξ (show w.heap.size ≤ w3.heap.size ∧ bc ≠ w3.heap.size ∧ b4 ≠ w3.heap.size from ⟨G.out.size, by have := TC.out.lt; omega, by have := T4.out.lt; omega⟩)
 have x3' := HS0.out.tc.at 3 rfl
 unfold cutName at HS0 x3'
 clear B6 G TC T4
 go_wp2_with fail
 clear x3 x3'
 generalize w3.heap.size = b6 at HS0 HN6 ⊢
 generalize w3.alloc _ = W4 at HS0 ⊢
 go_loopw [29] (fun i w9 => ∃ (k : Nat) (tv : Value), i = .int .i64 (k : Int) ∧ k ≤ c.vars.length ∧ ξ2h w w9 bc b4 b6 #[.int .i64 c.kind, .slice pm c.mult.length cm, .int .i64 c.row, .slice pv c.vars.length cv] ((c.vars.length : Int) - 1) tv ((c.vars.take k).map fun v => (⟨v, 1⟩ : ξ8))) (fun i _ => c.vars.length - (RowKit.intOf i).toNat)
 case atStart => exact ⟨0, _, rfl, Nat.zero_le _, HS0.out⟩
 case round =>
  clear HS0
  obtain ⟨k, tv, rfl, hk, hst⟩ := hrel
  have HS := ξ hst
  clear hst
  by_cases hlt : k < c.vars.length
  ·have hlt' : (k : Int) < (c.vars.length : Int) := by omega
   have hk1 : IntKind.i64.wrap ((k : Int) + 1) = (k : Int) + 1 := by rw [IntKind.wrap_i64]; omega
   obtain ⟨b2, o2, z, rfl, hz, hcz⟩ := ξ1f HVA.out rfl hlt
   have HTK := ξ (show (c.vars.take (k + 1)).map (fun v => (⟨v, 1⟩ : ξ8)) = ((c.vars.take k).map fun v => (⟨v, 1⟩ : ξ8)) ++ [⟨z, 1⟩] from by rw [List.take_add_one, hz]; simp)
   have z0 := hcz wr HS.out.g
   have c6 := HS.out.t6.at 3 rfl
   have BS := SlL.new (enc := encTerm) (sz := 2) wr 75 ξ0a [⟨z, 1⟩] #[.int .i64 z, .int .i64 1] 1 rfl rfl (by decide)
   have HS := ξ (HS.out.grow BS.1)
   have HBS := ξ BS.2
   clear hz hcz BS
   go_wp2_with (at_builtin; refine Hold.hold ?_)
   clear z0 c6
   generalize wr.heap.size = bs at HBS ⊢
   generalize wr.alloc _ = w6 at HS HBS ⊢
   refine Hold.go ?_
   refine ξ3f rfl _ _ rfl w.heap.size tv _ ((c.vars.take k).map fun v => (⟨v, 1⟩ : ξ8)) ⟨z, 1⟩ rfl HS.out.tw rfl HBS.out (by simp; omega) HS.out.g.size ?_
   intro tv' w7 h1 h2 h3 h4
   obtain ⟨⟨q1, q2⟩, q3⟩ := HS.out.putT HN6.out.1 HN6.out.2 h1 h2 h4
   obtain ⟨pt, ct, hpt⟩ := ξ0C h1
   obtain ⟨ln, hln⟩ : ∃ n, (((c.vars.take k).map fun v => (⟨v, 1⟩ : ξ8)) ++ ([⟨z, 1⟩] : List ξ8)).length = n := ⟨_, rfl⟩
   rw [hln] at hpt
   subst hpt
   obtain ⟨pt0, ct0, hpt0⟩ := ξ0C HS.out.tw
   obtain ⟨ln0, hln0⟩ : ∃ n, ((c.vars.take k).map fun v => (⟨v, 1⟩ : ξ8)).length = n := ⟨_, rfl⟩
   rw [hln0] at hpt0
   subst hpt0
   have HNX := ξ q3
   clear h1 h2 h3 h4 q3 hln hln0
   go_wp2_with fail
   clear q1 q2
   generalize w7.setCell _ _ = W7 at HNX ⊢
   refine ⟨⟨k + 1, _, by go_num, by omega, by rw [HTK.out]; exact HNX.out⟩, by simp [RowKit.intOf]; omega⟩
  ·obtain rfl : k = c.vars.length := by omega
   obtain ⟨ts, hts⟩ : ∃ ts, (c.vars.map fun v => (⟨v, 1⟩ : ξ8)) = ts := ⟨_, rfl⟩
   have HTS := ξ hts
   have HS := ξ (show ξ2h w wr bc b4 b6 #[.int .i64 c.kind, .slice pm c.mult.length cm, .int .i64 c.row, .slice pv c.vars.length cv] ((c.vars.length : Int) - 1) tv ts from by have := HS.out; rwa [List.take_length, hts] at this)
   clear hts
   obtain ⟨pt, ct, rfl⟩ := ξ0C HS.out.tw
   have y0 := HS.out.t6.at 0 rfl
   have y1 := HS.out.t6.at 1 rfl
   have y2 := HS.out.t6.at 2 rfl
   have y3 := HS.out.t6.at 3 rfl
   have y4 := HS.out.t6.at 4 rfl
   have c0 := HS.out.t4.at 0 rfl
   have c1 := HS.out.t4.at 1 rfl
   have c2 := HS.out.t4.at 2 rfl
   have c3 := HS.out.t4.at 3 rfl
   have c4 := HS.out.t4.at 4 rfl
   have f0 := ξ0.f HS.out.t4 0
   have f1 := ξ0.f HS.out.t4 1
   have f2 := ξ0.f HS.out.t4 2
   have f3 := ξ0.f HS.out.t4 3
   have f4 := ξ0.f HS.out.t4 4
   have hne1 : ¬ b4 = b6 := HN6.out.2.2
   have hne2 : ¬ b6 = b4 := fun e => hne1 e.symm
   have hf := fill5 (.string ⟨cutName.toArray⟩) (.int .i64 0) (.int .i64 0) (.slice pt ts.length ct) (.int .i64 ((c.vars.length : Int) - 1)) HS.out.t4 HS.out.g HB4.out
   have HFX := ξ (show _ ∧ _ ∧ ξn _ w.heap.size _ _ from ⟨hf.1, hf.2.1, HS.out.tw.same hf.2.2 (by simp [World.setCell]) (ξ1g HS.out.tw fun g hg => (HS.out.ne g hg).2.1) rfl rfl rfl⟩)
   clear hf
   go_wp2_with fail
   clear c0 c1 c2 c3 c4 f0 f1 f2 f3 f4 y0 y1 y2 y3 y4
   try rw [Exit.noGoto_ret]
   generalize ((((wr.setCell _ _).setCell _ _).setCell _ _).setCell _ _).setCell _ _ = W6 at HFX ⊢
   have z0 := HFX.out.2.1.at 0 rfl
   have z1 := HFX.out.2.1.at 1 rfl
   have z2 := HFX.out.2.1.at 2 rfl
   have z3 := HFX.out.2.1.at 3 rfl
   have z4 := HFX.out.2.1.at 4 rfl
   refine bodyPost_ret (by simp [results, Tryz.results206, go_sem, z0, z1, z2, z3, z4]; rfl) rfl ?_
   exact ⟨_, rfl, HFX.out.1, .inl ⟨coverRow c.vars, ⟨cutName, 0, 0, pt, ct, ts, (c.vars.length : Int) - 1⟩, HD.out, rfl, by unfold coverRow; rw [HTS.out]; rfl, HFX.out.2.2⟩⟩
end Prf
end Go.Proofs.YtcjgimlcefhhmaaGreatDoor

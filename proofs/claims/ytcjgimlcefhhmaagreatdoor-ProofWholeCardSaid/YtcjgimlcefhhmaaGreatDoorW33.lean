/- Texts: LnD. -/
import Derived.Test.YtcjgimlcefhhmaaGreatDoorW22
import Derived.Test.YtcjgimlcefhhmaaGreatDoorW31
import Derived.Test.YtcjgimlcefhhmaaGreatDoorW32
set_option linter.unusedVariables false
set_option linter.unusedSimpArgs false
set_option maxRecDepth 100000
set_option maxHeartbeats 12800000
namespace Go.Proofs.YtcjgimlcefhhmaaGreatDoor
namespace Prf
open Go.RowKit Go.Lib
def kB (p : Prg) (i : Nat) : Int := match p.rows[i]? with
 | some r => r.bound
 | none => 0
theorem cB_k (p : Prg) (y : List Rat) (i : Nat) : cB p y i = (kB p i : Rat) * atQ y i := by
 unfold cB kB
 cases p.rows[i]? with
 | some r => rfl
 | none => simp
open Classical in
noncomputable def kL (vs : List VarM) (a : Nat → Rat) (i : Nat) : Int := match vs[i]? with
 | some v => if a i < 0 then v.up else v.lo
 | none => 0
theorem lT_k (vs : List VarM) (a : Nat → Rat) (i : Nat) : lTerm vs a i = (kL vs a i : Rat) * a i := by
 unfold lTerm kL
 cases vs[i]? with
 | some v =>
  show (if a i < 0 then v.up else v.lo : Int) * a i = ((if a i < 0 then v.up else v.lo : Int) : Rat) * a i
  by_cases h : a i < 0
  ·simp only [if_pos h]
  ·simp only [if_neg h]
 | none => simp
theorem ξbK (w : World) (bp bq n vc vd c : Nat) (va vb q : Option Addr) (p : Prg) (y : List Rat) (L i : Nat) (hb : ξ0 w bp #[.slice va n vc, .slice vb p.rows.length vd]) (hq : ξ0 w bq #[.slice q y.length c]) (hr : ξ0H w (.slice vb p.rows.length vd) p.rows) (hy : ξ1D w (.slice q y.length c) y L) (hi : i < p.rows.length) (hm : p.rows.length ≤ 1000000) :
  Calls Tryz.prog 144 (#[.int .i64 (i : Int)] ++ #[.pointer (some ⟨bp, 0, none⟩), .pointer (some ⟨bq, 0, none⟩)]) w (Ret w fun r w' => ∃ u, r = .tuple #[.int .i64 (kB p i), u] ∧ RatV w' u (atQ y i) L) := by
 show Calls _ _ #[.int .i64 (i : Int), .pointer (some ⟨bp, 0, none⟩), .pointer (some ⟨bq, 0, none⟩)] _ _
 obtain ⟨b, o, x, rfl, hx, hin, hc⟩ := hr.at hi
 have HK := ξ (show kB p i = x.bound from by unfold kB; rw [hx]; rfl)
 have HY := ξ hy
 have B5 := box3 w (.bool false) (.slice none 0 0) (.slice none 0 0) 68
 have HB := ξ B5
 have y1 := (hb.grow B5.1).c 1 rfl
 have z0 := (hq.grow B5.1).c 0 rfl
 have c4 := fun w' g => (hc w' (B5.1.trans g)).2.2.2.2
 have hi' : (i : Int) < (p.rows.length : Int) := by omega
 clear hb hq hr hy hx hin hc B5
 go_enter Tryz.func144, Tryz.ntmps144
 go_wp2_with fail
 generalize hb5 : w.heap.size = b5 at HB ⊢
 generalize w.alloc _ = W at HB y1 z0 c4 ⊢
 have HB5 := ξ (show w.heap.size ≤ b5 from by omega)
 clear hb5
 have g0 : Gr W W.drew := (Gr.refl _).drew
 have GZ := ξ g0
 refine ξ3 [(0, true), (1, true), (2, true), (3, true), (4, true), (5, true), (6, true), (7, true), (8, false), (9, true), (10, false)] (by kernel_rfl) (by kernel_rfl) rfl (by kernel_rfl) (fun _ _ d _ _ h => by cases d <;> exact h) ?_
 repeat (refine ξ2 (v := ?_) g0 rfl rfl (fun w' hg => ?_) (fun K hK => ?_); rotate_left; (go_simp; rfl); go_simp; refine hK _ _ ?_; clear hK K)
 refine ξ7 (args := ?_) rfl rfl rfl rfl rfl rfl (by kernel_rfl) (by kernel_rfl) ?_ (fun K hK => ?_)
 rotate_left
 ·go_simp; rfl
 refine (ξ8T _ q c y L i (HY.out.grow (HB.out.1.trans GZ.out))).mono ?_
 rintro _ w1 ⟨r1, rfl, g1, h1⟩
 refine ⟨_, rfl, g1, ?_⟩
 go_simp
 refine hK _ _ ?_
 clear hK K
 have GZ := ξ (GZ.out.trans g1)
 have g4 := GZ.out
 repeat (refine ξ2 (v := ?_) g4 rfl rfl (fun w' hg => ?_) (fun K hK => ?_); rotate_left; (go_simp; rfl); go_simp; refine hK _ _ ?_; clear hK K)
 obtain ⟨s8, p8, k8, c8, e8, m8, n8, rfl⟩ := h1.agg
 have T5 := HB.out.2.grow GZ.out
 have f0 := T5.load.1
 have f1 := T5.load.2.1
 have f2 := T5.load.2.2
 have f3 := T5.f0 0
 have f4 := T5.f0 1
 have f5 := T5.f0 2
 have HX := ξ (show Gr w (set3 w1 b5 (.bool s8) (.slice p8 k8 c8) (.slice e8 m8 n8)) ∧ ξe (set3 w1 b5 (.bool s8) (.slice p8 k8 c8) (.slice e8 m8 n8)) b5 (.bool s8) (.slice p8 k8 c8) (.slice e8 m8 n8) ∧ RatV (set3 w1 b5 (.bool s8) (.slice p8 k8 c8) (.slice e8 m8 n8)) (.agg #[.bool s8, .slice p8 k8 c8, .slice e8 m8 n8]) (atQ y i) L from
  ⟨ξ03 (HB.out.1.trans GZ.out) HB5.out _ _ _, T5.set _ _ _, h1.upd T5.noInt (upd3 _ _ _ _ _)⟩)
 clear h1 T5 y1 z0 c4
 refine ξi rfl rfl (fun K hK => ?_)
 go_simp
 refine ⟨fun h => Bool.noConfusion h, hK _ _ ?_⟩
 clear hK K
 unfold set3 at HX
 generalize ((w1.setCell _ _).setCell _ _).setCell _ _ = W5 at HX ⊢
 refine ξ9 ?_
 clear f0 f1 f2 f3 f4 f5 g0 g1 g4
 go_wp2_with fail
 have T0_0 := HX.out.2.1.load.1
 have T0_1 := HX.out.2.1.load.2.1
 have T0_2 := HX.out.2.1.load.2.2
 refine bodyPost_ret (by simp [results, Tryz.results144, go_sem, T0_0, T0_1, T0_2]; rfl) rfl ?_
 exact ⟨_, rfl, HX.out.1, _, by rw [HK.out], HX.out.2.2⟩
structure LcSt (w W : World) (bp bq b5 bo : Nat) (u0 u1 uq : Value) (n : Nat) (a : Nat → Rat) : Prop where
 g : Gr w W
 tp : ξ0 W bp #[u0, u1]
 tq : ξ0 W bq #[uq]
 t5 : ξe W b5 (.bool false) (.slice none 0 0) (.slice none 0 0)
 ro : ξd W bo n a 80
theorem LcSt.grow {w W W' : World} {bp bq b5 bo : Nat} {u0 u1 uq : Value} {n : Nat} {a : Nat → Rat} (h : LcSt w W bp bq b5 bo u0 u1 uq n a) (g : Gr W W') : LcSt w W' bp bq b5 bo u0 u1 uq n a :=
 ⟨h.g.trans g, h.tp.grow g, h.tq.grow g, h.t5.grow g, h.ro.grow g⟩
structure LcNe (w : World) (bp bq b5 bo : Nat) : Prop where
 o : w.heap.size ≤ bo
 p : bp ≠ bo
 q : bq ≠ bo
 o5 : b5 ≠ bo
 c : w.heap.size ≤ b5
theorem LcSt.putO {w W : World} {bp bq b5 bo : Nat} {u0 u1 uq : Value} {n : Nat} {a a' : Nat → Rat} (h : LcSt w W bp bq b5 bo u0 u1 uq n a) (hn : LcNe w bp bq b5 bo) {k : Nat} (hk : k < n) {t : RatM} (ht : RatV W t.v (a' k) 80) (e : ∀ i, i < n → i ≠ k → a i = a' i) :
  LcSt w (setRat W bo k t) bp bq b5 bo u0 u1 uq n a' :=
 have hu := ξ19 W bo k t
 ⟨ξ2T h.g hn.o k t, h.tp.upd hu hn.p, h.tq.upd hu hn.q, h.t5.upd hu hn.o5, h.ro.set hk ht e⟩
theorem LcSt.congr {w W : World} {bp bq b5 bo : Nat} {u0 u1 uq : Value} {n : Nat} {a a' : Nat → Rat} (h : LcSt w W bp bq b5 bo u0 u1 uq n a) (e : ∀ j, a j = a' j) : LcSt w W bp bq b5 bo u0 u1 uq n a' :=
 ⟨h.g, h.tp, h.tq, h.t5, h.ro.congr fun j _ => e j⟩
theorem ξbA {p : Prg} {y : List Rat} {i : Nat} (h : atQ y i = 0) (j : Nat) : sumQ (cA p y j) (i + 1) = sumQ (cA p y j) i := by
 have e : cA p y j i = 0 := by
  unfold cA
  cases p.rows[i]? with
  | none => rfl
  | some r => simp [h]
 rw [ξ0Y, e, Rat.add_zero]
theorem ξcM {y : List Rat} {i : Nat} (h : ¬ atQ y i = 0) : i < y.length := Classical.not_not.1 fun k => h (ξ2F (by omega))
theorem ξ60 (w : World) (v : Value) (p : Prg) (q : Option Addr) (c : Nat) (y : List Rat) (hp : ξC w v p) (hy : ξ1D w (.slice q y.length c) y 4) (hc : Calm p y) (hk : ξr p) :
  Calls Tryz.prog 90 #[v, .slice q y.length c] w (Ret w fun r w' => ∃ b u, r = .tuple #[.slice (some ⟨b, 0, none⟩) p.vars.length p.vars.length, u] ∧ w.heap.size ≤ b ∧ ξd w' b p.vars.length (combA p y) 80 ∧ RatC w' u (combB p y)) := by
 have HY := ξ hy
 have HC := ξ hc
 have HK := ξ hk
 have hn := hk.1
 have hm := hk.2.1
 have hyl := hy.parts
 clear hy hc hk
 obtain ⟨va, vc, vb, vd, rfl, hv, hr⟩ := hp
 have HV := ξ hv
 have HR := ξ hr
 clear hv hr
 have B0 := ξ0.new w #[.slice va p.vars.length vc, .slice vb p.rows.length vd] 25
 have B1 := ξ0.new (w.alloc (.cells #[.slice va p.vars.length vc, .slice vb p.rows.length vd] 25)) #[.slice q y.length c] 33
 have B2 := box3 ((w.alloc (.cells #[.slice va p.vars.length vc, .slice vb p.rows.length vd] 25)).alloc (.cells #[.slice q y.length c] 33)) (.bool false) (.slice none 0 0) (.slice none 0 0) 68
 simp only [World.size_alloc] at B1 B2
 have HB := ξ (show Gr w _ ∧ ξ0 _ w.heap.size #[.slice va p.vars.length vc, .slice vb p.rows.length vd] ∧ ξ0 _ (w.heap.size + 1) #[.slice q y.length c] ∧ ξe _ (w.heap.size + 1 + 1) (.bool false) (.slice none 0 0) (.slice none 0 0) from ⟨B0.1.trans (B1.1.trans B2.1), B0.2.grow (B1.1.trans B2.1), B1.2.grow B2.1, B2.2⟩)
 clear B0 B1 B2
 unfold prgV
 go_enter Tryz.func90, Tryz.ntmps90
 go_wp2_with (at_make; refine Hold.hold ?_)
 generalize hb5 : w.heap.size + 1 + 1 = b5 at HB ⊢
 generalize hbq : w.heap.size + 1 = bq at HB ⊢
 generalize hbp : w.heap.size = bp at HB ⊢
 generalize ((w.alloc _).alloc _).alloc _ = W at HB ⊢
 have G := ξ HB.out.1
 have TP := ξ HB.out.2.1
 have TQ := ξ HB.out.2.2.1
 have T5 := ξ HB.out.2.2.2
 have HBB := ξ (show w.heap.size ≤ b5 from by omega)
 clear HB hb5 hbq hbp
 refine Hold.go ?_
 refine ξ1M rfl _ _ 33 rfl (by kernel_rfl) p.vars.length _ rfl rfl rfl (by omega) ?_
 intro W1 ho g1
 have HNE := ξ (show LcNe w bp bq b5 W.heap.size from by
  have h1 := TP.out.lt
  have h2 := T5.out.lt
  have h3 := G.out.size
  have h4 := TQ.out.lt
  exact ⟨by omega, by omega, by omega, by omega, HBB.out⟩)
 have HS0 := ξ (show LcSt w W1 bp bq b5 W.heap.size (.slice va p.vars.length vc) (.slice vb p.rows.length vd) (.slice q y.length c) p.vars.length (fun _ => 0) from
  ⟨G.out.trans g1, TP.out.grow g1, TQ.out.grow g1, T5.out.grow g1, ho⟩)
 have y1 := (TP.out.grow g1).at 1 rfl
 generalize W.heap.size = bo at HS0 HNE ⊢
 clear ho g1 TP TQ T5 G HBB
 go_wp2_with fail
 clear y1
 go_loopw [18] (fun i w9 => ∃ k : Nat, i = .int .i64 (k : Int) ∧ k ≤ p.rows.length ∧ LcSt w w9 bp bq b5 bo (.slice va p.vars.length vc) (.slice vb p.rows.length vd) (.slice q y.length c) p.vars.length (fun j => sumQ (cA p y j) k)) (fun i _ => p.rows.length - (RowKit.intOf i).toNat)
 case atStart => exact ⟨0, rfl, Nat.zero_le _, HS0.out⟩
 case round =>
  clear HS0
  obtain ⟨k, rfl, hk, hq⟩ := hrel
  have HS := ξ hq
  clear hq
  by_cases hlt : k < p.rows.length
  ·have hlt' : (k : Int) < (p.rows.length : Int) := by omega
   have hkk1 : IntKind.i64.wrap ((k : Int) + 1) = (k : Int) + 1 := by rw [IntKind.wrap_i64]; omega
   obtain ⟨b, o, x, rfl, hx, hin, hc⟩ := HR.out.at hlt
   obtain ⟨c0, c1, c2, c3, c4⟩ := hc _ HS.out.g
   have HX := ξ hx
   have HIN := ξ hin
   have HRO := ξ (HK.out.2.2.2 _ (List.mem_of_getElem? hx))
   clear hc hx hin
   have B9 := ξ0.new wr #[.string ⟨x.name.toArray⟩, .int .i64 x.group, .int .i64 x.kind, .slice x.tp x.terms.length x.tc, .int .i64 x.bound] 42
   have HB9 := ξ (show LcSt w _ bp bq b5 bo _ _ _ p.vars.length _ ∧ Gr wr _ ∧ ξ0 _ _ _ ∧ wr.heap.size ≠ bo from ⟨HS.out.grow B9.1, B9.1, B9.2, by have := HS.out.ro.lt; omega⟩)
   clear B9
   have z0 := HB9.out.1.tq.at 0 rfl
   go_wp2_with fail
   clear c0 c1 c2 c3 c4 z0
   generalize wr.heap.size = b9 at HB9 ⊢
   generalize wr.alloc _ = W9 at HB9 ⊢
   have H9 := ξ (show ξ0 W9 b9 #[.string ⟨x.name.toArray⟩, .int .i64 x.group, .int .i64 x.kind, .slice x.tp x.terms.length x.tc, .int .i64 x.bound] from HB9.out.2.2.1)
   have HN9 := ξ HB9.out.2.2.2
   have HS := ξ HB9.out.1
   clear HB9
   refine (ξ8T W9 q c y 4 k (HY.out.grow HS.out.g)).mono ?_
   rintro _ w2 ⟨r2, rfl, g2, h2⟩
   have HS := ξ (HS.out.grow g2)
   have H9 := ξ (H9.out.grow g2)
   have H2 := ξ h2
   clear g2 h2
   go_wp2_with fail
   obtain ⟨cs, hcs⟩ : ∃ c, sgn (atQ y k).num = c := ⟨_, rfl⟩
   refine (ξ3T w2 r2 (atQ y k) cs 4 H2.out hcs (by decide)).mono ?_
   rintro _ w3 ⟨_, rfl, g3, rfl⟩
   have HS := ξ (HS.out.grow g3)
   have H9 := ξ (H9.out.grow g3)
   have HCZ := ξ (ξ4B hcs)
   clear g3 hcs H2
   by_cases h0 : cs = 0
   ·have HZ := ξ (HCZ.out.1 h0)
    subst h0
    go_wp2_with fail
    exact ⟨⟨k + 1, by go_num, by omega, HS.out.congr fun j => (ξbA HZ.out j).symm⟩, by simp [RowKit.intOf]; omega⟩
   have e0 : (cs == 0) = false := by simpa using h0
   have HYL := ξ (ξcM fun h => h0 (HCZ.out.2 h))
   clear h0 HCZ
   have y3 := H9.out.at 3 rfl
   have htb := ξ0s.big HIN.out
   go_wp2_with fail
   clear y3 e0
   go_loopw [31] (fun i w9 => ∃ m : Nat, i = .int .i64 (m : Int) ∧ m ≤ x.terms.length ∧ LcSt w w9 bp bq b5 bo (.slice va p.vars.length vc) (.slice (some ⟨b, o, none⟩) p.rows.length vd) (.slice q y.length c) p.vars.length (fun j => sumQ (cA p y j) k + (rowCoef (x.terms.take m) j : Rat) * atQ y k) ∧ ξ0 w9 b9 #[.string ⟨x.name.toArray⟩, .int .i64 x.group, .int .i64 x.kind, .slice x.tp x.terms.length x.tc, .int .i64 x.bound]) (fun i _ => x.terms.length - (RowKit.intOf i).toNat)
   case atStart => exact ⟨0, rfl, Nat.zero_le _, HS.out.congr fun j => by simp [rowCoef]; grind, H9.out⟩
   case round =>
    clear HS H9
    obtain ⟨m, rfl, hm2, hq, hq9⟩ := hrel
    have HS := ξ hq
    have H9 := ξ hq9
    clear hq hq9
    by_cases hlm : m < x.terms.length
    ·have hlm' : (m : Int) < (x.terms.length : Int) := by omega
     obtain ⟨bt, ot, tm, htp, ht, hct⟩ := ξ3h HIN.out rfl hlm
     obtain ⟨d0, d1⟩ := hct _ HS.out.g
     rw [htp]
     have HT := ξ ht
     have HTV := ξ (ξ3K (Int.le_refl _) HRO.out.2.2.2.2.2 tm (List.mem_of_getElem? ht))
     have HTC := ξ (ξ1q _ _ _ _ ht HRO.out.2.2.2.2.2)
     obtain ⟨jn, hjn⟩ : ∃ jn : Nat, tm.v = (jn : Int) := ⟨tm.v.toNat, by have := HTV.out.1; omega⟩
     have hjl : jn < p.vars.length := by have := HTV.out.2; omega
     have hjl' : (jn : Int) < (p.vars.length : Int) := by omega
     have hj0 : (0 : Int) ≤ (jn : Int) := by omega
     rw [hjn] at d0
     have HJ := ξ hjn
     have BT := ξ0.new wr #[.int .i64 (jn : Int), .int .i64 tm.c] 75
     have HBT := ξ BT.2
     have HS := ξ (HS.out.grow BT.1)
     have H9 := ξ (H9.out.grow BT.1)
     have HTP := ξ htp
     clear ht hct hjn htp BT
     go_wp2_with fail
     clear d0 d1
     generalize wr.heap.size = bt2 at HBT ⊢
     generalize wr.alloc _ = W4 at HBT HS H9 ⊢
     have d0 := HBT.out.c 0 rfl
     have d1 := HBT.out.c 1 rfl
     have z0 := HS.out.tq.c 0 rfl
     obtain ⟨t0, hv0, hc0⟩ := HS.out.ro.at hjl
     have e0 := fun w' g => (hc0 w' g).1
     have e1 := fun w' g => (hc0 w' g).2.1
     have e2 := fun w' g => (hc0 w' g).2.2
     have HV0 := ξ hv0
     obtain ⟨by', oy, ty, hqy, hvy, hcy⟩ := HY.out.at HYL.out
     have hyk : (k : Int) < (y.length : Int) := by have := HYL.out; omega
     have i0 := fun w' g => (hcy w' (HS.out.g.trans g)).1
     have i1 := fun w' g => (hcy w' (HS.out.g.trans g)).2.1
     have i2 := fun w' g => (hcy w' (HS.out.g.trans g)).2.2
     have HVY := ξ (hvy.grow HS.out.g)
     rw [show (#[.slice q y.length c] : Array Value)[0] = .slice (some ⟨by', oy, none⟩) y.length c from by show Value.slice q _ _ = _; rw [hqy]] at z0
     have g0 : Gr W4 W4.drew := (Gr.refl _).drew
     have GZ := ξ g0
     clear hv0 hc0 hvy hcy hqy
     refine ξ3 [(0, true), (1, true), (2, true), (3, true), (4, true), (5, true), (6, true), (7, true), (8, true), (9, true), (11, true), (12, true), (13, true), (14, true), (10, false), (15, false), (16, false), (17, true), (18, false)] (by kernel_rfl) (by kernel_rfl) rfl (by kernel_rfl) (fun _ _ d _ _ h => by cases d <;> exact h) ?_
     repeat (refine ξ2 (v := ?_) g0 rfl rfl (fun w' hg => ?_) (fun K hK => ?_); rotate_left; (go_simp; rfl); go_simp; refine hK _ _ ?_; clear hK K)
     refine ξ7 (args := ?_) rfl rfl rfl rfl rfl rfl (by kernel_rfl) (by kernel_rfl) ?_ (fun K hK => ?_)
     rotate_left
     ·go_simp; rfl
     refine (ξ0W _ tm.c (ξ0h HTC.out.2.2.2).1 (ξ0h HTC.out.2.2.2).2).mono ?_
     rintro _ w5 ⟨r1, rfl, g1, h1⟩
     refine ⟨_, rfl, g1, ?_⟩
     go_simp
     refine hK _ _ ?_
     clear hK K
     have GZ := ξ (GZ.out.trans g1)
     refine ξ7 (args := ?_) rfl rfl rfl rfl rfl rfl (by kernel_rfl) (by kernel_rfl) ?_ (fun K hK => ?_)
     rotate_left
     ·go_simp; rfl
     refine (ξ2P _ _ _ (tm.c : Rat) (atQ y k) _ 2 4 (h1.v (ξ0T HTC.out.2.2.2)) (HVY.out.grow GZ.out) rfl (by decide) (by decide)).mono ?_
     rintro _ w6 ⟨r2, rfl, g2, h2⟩
     refine ⟨_, rfl, g2, ?_⟩
     go_simp
     refine hK _ _ ?_
     clear hK K
     have GZ := ξ (GZ.out.trans g2)
     clear h1
     refine ξ7 (args := ?_) rfl rfl rfl rfl rfl rfl (by kernel_rfl) (by kernel_rfl) ?_ (fun K hK => ?_)
     rotate_left
     ·go_simp; rfl
     refine (ξ6n _ _ _ _ _ _ 80 80 (HV0.out.grow GZ.out) (h2.v (HC.out.t tm.c k HTC.out.2.2.2)) rfl (by decide) (by decide)).mono ?_
     rintro _ w7 ⟨r3, rfl, g3, h3⟩
     refine ⟨_, rfl, g3, ?_⟩
     go_simp
     refine hK _ _ ?_
     clear hK K
     have GZ := ξ (GZ.out.trans g3)
     clear h2
     have g4 := GZ.out
     repeat (refine ξ2 (v := ?_) g4 rfl rfl (fun w' hg => ?_) (fun K hK => ?_); rotate_left; (go_simp; rfl); go_simp; refine hK _ _ ?_; clear hK K)
     have HS := ξ (HS.out.grow GZ.out)
     have H9 := ξ (H9.out.grow GZ.out)
     obtain ⟨s8, p8, k8, c8, e8, m8, n8, rfl⟩ := h3.agg
     obtain ⟨t1, -, hc1⟩ := HS.out.ro.at hjl
     obtain ⟨f0, f1, f2⟩ := hc1 w7 (Gr.refl _)
     have f3 := HS.out.ro.f (jn * 3)
     have f4 := HS.out.ro.f (jn * 3 + 1)
     have f5 := HS.out.ro.f (jn * 3 + 2)
     clear e0 e1 e2 d0 d1 z0 i0 i1 i2 hc1
     have HNX := ξ (show LcSt w (setRat w7 bo jn ⟨s8, p8, k8, c8, e8, m8, n8⟩) bp bq b5 bo _ _ _ p.vars.length (fun j => sumQ (cA p y j) k + (rowCoef (x.terms.take (m + 1)) j : Rat) * atQ y k) from
      HS.out.putO HNE.out hjl (t := ⟨s8, p8, k8, c8, e8, m8, n8⟩) (by
       have e : sumQ (cA p y jn) k + (rowCoef (x.terms.take (m + 1)) jn : Rat) * atQ y k = sumQ (cA p y jn) k + (rowCoef (x.terms.take m) jn : Rat) * atQ y k + (tm.c : Rat) * atQ y k := by
        rw [ξ0M HT.out, if_pos HJ.out, Rat.intCast_add]; grind
       show RatV w7 _ (sumQ (cA p y jn) k + (rowCoef (x.terms.take (m + 1)) jn : Rat) * atQ y k) 80
       have hz : Sz 80 (sumQ (cA p y jn) k + (rowCoef (x.terms.take (m + 1)) jn : Rat) * atQ y k) := HC.out.ak k jn (m + 1) _ HX.out
       rw [e] at hz ⊢
       exact h3.v hz) (fun i hi hne => by
        show sumQ (cA p y i) k + (rowCoef (x.terms.take m) i : Rat) * atQ y k = sumQ (cA p y i) k + (rowCoef (x.terms.take (m + 1)) i : Rat) * atQ y k
        rw [ξ0M HT.out, if_neg (by rw [HJ.out]; omega)]; simp))
     have HN9' := ξ (H9.out.upd (ξ19 w7 bo jn ⟨s8, p8, k8, c8, e8, m8, n8⟩) HN9.out)
     clear h3
     refine ξi rfl rfl (fun K hK => ?_)
     go_simp
     refine ⟨fun h => Bool.noConfusion h, hK _ _ ?_⟩
     clear hK K
     unfold setRat at HNX HN9'
     dsimp only at HNX HN9'
     generalize ((w7.setCell _ _).setCell _ _).setCell _ _ = W5 at HNX HN9' ⊢
     refine ξ9 ?_
     clear f0 f1 f2 f3 f4 f5 g0 g1 g2 g3 g4
     have hk1 : IntKind.i64.wrap ((m : Int) + 1) = (m : Int) + 1 := by rw [IntKind.wrap_i64]; omega
     go_wp2_with fail
     exact ⟨⟨m + 1, by go_num, by omega, HNX.out, by have h := HN9'.out; rw [HTP.out] at h; exact h⟩, by simp [RowKit.intOf]; omega⟩
    ·obtain rfl : m = x.terms.length := by omega
     go_wp2_with fail
     exact ⟨⟨k + 1, by go_num, by omega, HS.out.congr fun j => (ξ8s HX.out j).symm⟩, by simp [RowKit.intOf]; omega⟩
  ·obtain rfl : k = p.rows.length := by omega
   have y1 := HS.out.tp.at 1 rfl
   go_wp2_with fail
   clear y1
   have HTF := ξ (show ξ7s wr (.func (.func 144) #[] #[.pointer (some ⟨bp, 0, none⟩), .pointer (some ⟨bq, 0, none⟩)]) p.rows.length (kB p) (atQ y) 4 from
    ⟨_, _, rfl, enters_of Tryz.func144 (by kernel_rfl) rfl, fun w' g i hi => ξbK w' bp bq p.vars.length vc vd c va vb q p y 4 i (HS.out.tp.grow g) (HS.out.tq.grow g) (HR.out.grow (HS.out.g.trans g)) (HY.out.grow (HS.out.g.trans g)) hi (by omega)⟩)
   have HE := ξ (show ∀ i, sumQ (fun j => (kB p j : Rat) * atQ y j) i = sumQ (cB p y) i from fun i => ξ1z fun j _ => (cB_k p y j).symm)
   refine (ξbd wr _ p.rows.length (kB p) (atQ y) 4 HTF.out (fun i hi => by
    obtain ⟨r, h1, h2⟩ := ξ88 hi
    have := (HK.out.2.2.2 r h2).2.2.2.1
    unfold kB; rw [h1]
    exact ξ0h this) (fun i hi => by rw [HE.out]; exact Sz.mono' (HC.out.b i hi) (by decide)) (fun i hi => by
    obtain ⟨r, h1, h2⟩ := ξ88 hi
    have := (HK.out.2.2.2 r h2).2.2.2.1
    unfold kB; rw [h1]
    exact Sz.mono' (HC.out.t _ i this) (by decide)) (by decide) (by omega)).mono ?_
   rintro _ w4 ⟨r4, rfl, g4, h4⟩
   rw [HE.out] at h4
   have HS := ξ (HS.out.grow g4)
   obtain ⟨s8, p8, k8, c8, e8, m8, n8, rfl⟩ := h4.agg
   have h5 := HS.out.t5
   have f0 := h5.load.1
   have f1 := h5.load.2.1
   have f2 := h5.load.2.2
   have f3 := h5.f0 0
   have f4 := h5.f0 1
   have f5 := h5.f0 2
   have HX := ξ (show Gr w (set3 w4 b5 (.bool s8) (.slice p8 k8 c8) (.slice e8 m8 n8)) ∧ ξe (set3 w4 b5 (.bool s8) (.slice p8 k8 c8) (.slice e8 m8 n8)) b5 (.bool s8) (.slice p8 k8 c8) (.slice e8 m8 n8) ∧ ξd (set3 w4 b5 (.bool s8) (.slice p8 k8 c8) (.slice e8 m8 n8)) bo p.vars.length (combA p y) 80 ∧ RatC (set3 w4 b5 (.bool s8) (.slice p8 k8 c8) (.slice e8 m8 n8)) (.agg #[.bool s8, .slice p8 k8 c8, .slice e8 m8 n8]) (combB p y) from
    ⟨ξ03 HS.out.g HNE.out.c _ _ _, h5.set _ _ _, HS.out.ro.upd h5.noInt (upd3 _ _ _ _ _) HNE.out.o5.symm, h4.upd h5.noInt (upd3 _ _ _ _ _)⟩)
   clear h4 g4 h5 HTF
   go_wp2_with fail
   clear f0 f1 f2 f3 f4 f5
   unfold set3 at HX
   generalize ((w4.setCell _ _).setCell _ _).setCell _ _ = W5 at HX ⊢
   have T0_0 := HX.out.2.1.load.1
   have T0_1 := HX.out.2.1.load.2.1
   have T0_2 := HX.out.2.1.load.2.2
   refine bodyPost_ret (by simp [results, Tryz.results90, go_sem, T0_0, T0_1, T0_2]; rfl) rfl ?_
   exact ⟨_, rfl, HX.out.1, bo, _, rfl, HNE.out.o, HX.out.2.2.1, HX.out.2.2.2⟩
end Prf
end Go.Proofs.YtcjgimlcefhhmaaGreatDoor

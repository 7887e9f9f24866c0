/- Texts: PvH PxA. -/
import Derived.Test.YtcjgimlcefhhmaaGreatDoorW45
set_option linter.unusedVariables false
set_option linter.unusedSimpArgs false
set_option maxRecDepth 100000
set_option maxHeartbeats 12800000
namespace Go.Proofs.YtcjgimlcefhhmaaGreatDoor
namespace Prf
open Go.RowKit Go.Lib
theorem ξK.arg {w0 w : World} {bt : Nat} {v : Value} {p : Prg} (h : ξC w0 v p) (g : Gr w0 w) (hb : w0.heap.size ≤ bt) : ξK w bt v p := fun w' k =>
 h.grow (show Gr w0 w' from Below.grown g k g.size (fun k e => by cases e; exact hb))
def stepsE (bv : Nat) : Array MapEntry := #[{ key := .int .i64 0, val := .func (.func 43) #[] #[], born := 0 }, { key := .int .i64 1, val := .func (.func 45) #[] #[], born := 1 },
 { key := .int .i64 2, val := .func (.func 46) #[] #[.pointer (some ⟨bv, 0, none⟩)], born := 2 }, { key := .int .i64 3, val := .func (.func 48) #[] #[.pointer (some ⟨bv, 0, none⟩)], born := 3 }]
theorem ξ7c (w : World) (v : Value) (p : Prg) (N : List ξ6) (pt : Option Addr) (nt ct : Nat) (hnt : nt = N.length) (hv : ξC w v p) (hno : ξu w (.slice pt nt ct) N 4) (hp : PvP p N.length) (hf : ∀ n ∈ N, ξ08 n) :
  Calls Tryz.prog 24 #[v, .slice pt nt ct] w (Ret w fun r _ => ξ1 (ξa p N []) r) := by
 have HV := ξ hv
 have HNO := ξ (And.intro hno hnt)
 have HPV := ξ hp
 have HF := ξ hf
 obtain ⟨va, vc, vb, vd, rfl, hvs, hr⟩ := hv
 unfold prgV at HV ⊢
 clear hvs hr hno hp hf hnt
 have B0 := ξ0.new w #[.slice va p.vars.length vc, .slice vb p.rows.length vd] 25
 have B1 := ξ0.new (w.alloc (.cells #[.slice va p.vars.length vc, .slice vb p.rows.length vd] 25)) #[.slice pt nt ct] 26
 have B2 := ξ0.new ((w.alloc (.cells #[.slice va p.vars.length vc, .slice vb p.rows.length vd] 25)).alloc (.cells #[.slice pt nt ct] 26)) #[.nilFunc] 60
 simp only [World.size_alloc] at B1 B2
 have HB := ξ (show _ ∧ ξ0 _ _ #[.slice va p.vars.length vc, .slice vb p.rows.length vd] ∧ ξ0 _ _ #[.slice pt nt ct] ∧ ξ0 _ _ #[.nilFunc] from ⟨B0.1.trans (B1.1.trans B2.1), B0.2.grow (B1.1.trans B2.1), B1.2.grow B2.1, B2.2⟩)
 clear B0 B1 B2
 go_enter Tryz.func24, Tryz.ntmps24
 go_wp2_with fail
 generalize hbv : w.heap.size + 1 + 1 = bv at HB ⊢
 generalize hbt : w.heap.size + 1 = bt at HB ⊢
 generalize hbp : w.heap.size = bp at HB ⊢
 generalize ((w.alloc _).alloc _).alloc _ = W at HB ⊢
 have HNE := ξ (show w.heap.size ≤ bt ∧ bt ≠ bv ∧ bp ≠ bv ∧ w.heap.size ≤ bv ∧ bp ≠ bt from by omega)
 clear hbv hbt hbp
 have hmk := run_makeMap (P := Tryz.prog) 95 W
 have hs0 := ξj (P := Tryz.prog) (w := W) (es := ((stepsE bv).extract 0 0)) (c := 0) (t := 95) (key := .int .i64 0) (.func (.func 43) #[] #[]) Tryz.underlying95 Tryz.underlying3 ξG rfl rfl
 have hs1 := ξj (P := Tryz.prog) (w := W) (es := ((stepsE bv).extract 0 1)) (c := 1) (t := 95) (key := .int .i64 1) (.func (.func 45) #[] #[]) Tryz.underlying95 Tryz.underlying3 ξG rfl rfl
 have hs2 := ξj (P := Tryz.prog) (w := W) (es := ((stepsE bv).extract 0 2)) (c := 2) (t := 95) (key := .int .i64 2) (.func (.func 46) #[] #[.pointer (some ⟨bv, 0, none⟩)]) Tryz.underlying95 Tryz.underlying3 ξG rfl rfl
 have hs3 := ξj (P := Tryz.prog) (w := W) (es := ((stepsE bv).extract 0 3)) (c := 3) (t := 95) (key := .int .i64 3) (.func (.func 48) #[] #[.pointer (some ⟨bv, 0, none⟩)]) Tryz.underlying95 Tryz.underlying3 ξG rfl rfl
 simp only [stepsE, List.push_toArray, List.nil_append, List.cons_append, Array.push_empty, Nat.zero_add, Nat.reduceAdd, List.extract_toArray, List.extract_eq_take_drop, List.take, List.drop, Nat.sub_zero] at hs0 hs1 hs2 hs3
 have M1 := World.size_alloc W (.map (stepsE bv) 4)
 have gm : Gr W (W.alloc (.map (stepsE bv) 4)) := (Gr.refl _).alloc _
 have hma : ξ0P (W.alloc (.map (stepsE bv) 4)) W.heap.size (stepsL bv) := ⟨_, _, (MapKept.heap_alloc W _).1, rfl⟩
 have C6 := ξ0.new (W.alloc (.map (stepsE bv) 4)) #[.map (some W.heap.size)] 95
 rw [M1] at C6
 obtain ⟨W6, hW6⟩ : ∃ z, (W.alloc (.map (stepsE bv) 4)).alloc (.cells #[.map (some W.heap.size)] 95) = z := ⟨_, rfl⟩
 rw [hW6] at C6
 have GM := gm.trans C6.1
 obtain ⟨W7, hW7⟩ : ∃ z, W6.setCell ⟨bv, 0, none⟩ (.func (.func 50) #[] #[.pointer (some ⟨bt, 0, none⟩), .pointer (some ⟨W.heap.size + 1, 0, none⟩)]) = z := ⟨_, rfl⟩
 have hu : Upd bv W6 W7 := by rw [← hW7]; exact ξx W6 bv 0 _
 have hbv := HB.out.2.2.2.lt
 have hbp := HB.out.2.1.lt
 have hbt := HB.out.2.2.1.lt
 have HE := ξ (show ξ0N w W7 bt bv (W.heap.size + 1) W.heap.size (.slice pt nt ct) from by
  refine ⟨by rw [← hW7]; exact Gr.set (HB.out.1.trans GM) (by have := HNE.out; omega) _, (HB.out.2.2.1.grow GM).upd hu HNE.out.2.1, ?_, C6.2.upd hu (by omega), ?_, HNE.out.2.1, by omega, by omega, HNE.out.1⟩
  ·have h := (HB.out.2.2.2.grow GM).set 0 (visitF bt (W.heap.size + 1))
   unfold visitF at h ⊢
   rw [hW7] at h
   simpa using h
  ·obtain ⟨es, c, h1, h2⟩ := hma.grow C6.1
   exact ⟨es, c, by rw [hu W.heap.size (by omega)]; exact h1, h2⟩)
 have HP7 := ξ ((HB.out.2.1.grow GM).upd hu HNE.out.2.2.1)
 have f0 := ξ0.f (HB.out.2.2.2.grow GM) 0
 have p0 := HP7.out.at 0 rfl
 have p1 := HP7.out.at 1 rfl
 have v0 : W7.cell? ⟨bv, 0, none⟩ = some (.func (.func 50) #[] #[.pointer (some ⟨bt, 0, none⟩), .pointer (some ⟨W.heap.size + 1, 0, none⟩)]) := HE.out.v.at 0 rfl
 have z0 : W6.cell? ⟨bv, 0, none⟩ = some .nilFunc := (HB.out.2.2.2.grow GM).at 0 rfl
 unfold stepsE at hW6
 clear M1 gm hma C6 hu hbv hbp hbt GM
 rw [hmk]
 go_wp2_with fail
 clear hmk hs0 hs1 hs2 hs3 hW6 hW7 f0 p0 p1 v0 z0
 generalize W.heap.size = bm at HE ⊢
 refine (ξbr w bt bv (bm + 1) bm (N.length + 1) W7 _ p N pt ct nt (by omega) HNO.out.2 HE.out HNO.out.1 (ξK.arg HV.out HE.out.g HNE.out.1) HPV.out HF.out).mono ?_
 rintro _ w8 ⟨r8, rfl, g8, h8⟩
 rcases h8 with ⟨S, pt2, nt2, ct2, hpr, rfl, he2, hno2, hl2⟩ | ⟨hnp, rfl, tv2, he2⟩
 rotate_left
 ·have H := ξ (show ¬ ξa p N [] from fun h => hnp ⟨[], h⟩)
  have HE2 := ξ he2
  clear g8 hnp he2
  go_wp2_with fail
  go_ret
  exact ⟨_, rfl, HE2.out.g, ξ1.no H.out⟩
 have t0 := he2.t.at 0 rfl
 have HE2 := ξ he2
 cases S with
 | nil =>
  obtain rfl : nt2 = 0 := hl2
  have H := ξ hpr
  clear g8 hpr he2 hno2
  go_wp2_with fail
  go_ret
  exact ⟨_, rfl, HE2.out.g, ξ1.yes H.out⟩
 | cons m S =>
  have H := ξ (show ¬ ξa p N [] from fun h => by have := ξ2m hpr h; cases this)
  have hne : ((nt2 : Int) == 0) = false := by simp; simp at hl2; omega
  clear g8 hpr he2 hno2 hl2
  go_wp2_with fail
  go_ret
  exact ⟨_, rfl, HE2.out.g, ξ1.no H.out⟩
def ChkP (p : Prg) (N : List ξ6) (r : Value) : Prop := (¬ (ξr p ∧ Whole p) ∧ r = .int .i64 1) ∨ ((ξr p ∧ Whole p) ∧ ξa p N [] ∧ r = .int .i64 0) ∨ ((ξr p ∧ Whole p) ∧ ¬ ξa p N [] ∧ r = .int .i64 13)
theorem ξ10 (w : World) (v : Value) (p : Prg) (N : List ξ6) (pt : Option Addr) (nt ct : Nat) (hnt : nt = N.length) (hv : ξC w v p) (hno : ξu w (.slice pt nt ct) N 4) (hi : PrgI p) (hl : ∀ r ∈ p.rows, r.name.length ≤ 1000000) (hn : p.vars.length ≤ 10) (hm : p.rows.length + N.length ≤ 40) (hf : ∀ n ∈ N, ξ08 n) :
  Calls Tryz.prog 9 #[v, .slice pt nt ct] w (Ret w fun r _ => ChkP p N r) := by
 have HV := ξ hv
 have HNO := ξ (And.intro hno hnt)
 have HI := ξ hi
 have HL := ξ hl
 have HNM := ξ (And.intro hn hm)
 have HF := ξ hf
 obtain ⟨va, vc, vb, vd, rfl, hvs, hr⟩ := hv
 unfold prgV at HV ⊢
 have B := ξ0.new w #[.slice va p.vars.length vc, .slice vb p.rows.length vd] 25
 have HB := ξ B
 clear hvs hr hno hi hl hn hm hf hnt B
 go_enter Tryz.func9, Tryz.ntmps9
 go_wp2_with fail
 generalize w.heap.size = bp at HB ⊢
 generalize w.alloc _ = W at HB ⊢
 refine (ξ8a W _ p (HV.out.grow HB.out.1) HI.out HL.out (by have := HNM.out; omega) (by have := HNM.out; omega)).mono ?_
 rintro _ w1 ⟨r1, rfl, g1, h1⟩
 have G := ξ (HB.out.1.trans g1)
 have HP := ξ (HB.out.2.grow g1)
 rcases h1.cases with ⟨rfl, k1⟩ | ⟨rfl, k1⟩
 rotate_left
 ·have H := ξ k1
  clear h1 k1 g1
  go_wp2_with fail
  go_ret
  exact ⟨_, rfl, G.out, .inl ⟨H.out, rfl⟩⟩
 have H1 := ξ k1
 have p0 := HP.out.at 0 rfl
 have p1 := HP.out.at 1 rfl
 clear h1 k1 g1
 go_wp2_with fail
 clear p0 p1
 refine (ξ7c w1 _ p N pt nt ct HNO.out.2 (HV.out.grow G.out) (HNO.out.1.grow G.out) ⟨H1.out.1, H1.out.2, HNM.out.1, HNM.out.2⟩ HF.out).mono ?_
 rintro _ w2 ⟨r2, rfl, g2, h2⟩
 have G := ξ (G.out.trans g2)
 rcases h2.cases with ⟨rfl, k2⟩ | ⟨rfl, k2⟩
 ·have H := ξ k2
  clear h2 k2 g2
  go_wp2_with fail
  go_ret
  exact ⟨_, rfl, G.out, .inr (.inl ⟨H1.out, H.out, rfl⟩)⟩
 ·have H := ξ k2
  clear h2 k2 g2
  go_wp2_with fail
  go_ret
  exact ⟨_, rfl, G.out, .inr (.inr ⟨H1.out, H.out, rfl⟩)⟩
inductive Dep : List ξ6 → Nat → List ξ6 → Prop
 | leaf {n : ξ6} {t : List ξ6} (h0 : n.kind = 0) : Dep (n :: t) 0 t
 | split {n : ξ6} {t r s : List ξ6} {d e : Nat} (h0 : n.kind = 2) (h1 : Dep t d r) (h2 : Dep r e s) : Dep (n :: t) (1 + max d e) s
theorem Dep.le {N S : List ξ6} {d : Nat} (h : Dep N d S) : d + S.length ≤ N.length := by
 induction h with
 | leaf => simp
 | split _ _ _ i1 i2 => simp only [List.length_cons]; omega
def depF (bt bf : Nat) : Value := .func (.func 35) #[] #[.pointer (some ⟨bt, 0, none⟩), .pointer (some ⟨bf, 0, none⟩)]
structure ξ1e (W0 w : World) (bt bf : Nat) (tv : Value) : Prop where
 g : Gr W0 w
 t : ξ0 w bt #[tv]
 f : ξ0 w bf #[depF bt bf]
 n : bt ≠ bf ∧ W0.heap.size ≤ bt
theorem ξ1e.set {W0 w : World} {bt bf : Nat} {tv : Value} (h : ξ1e W0 w bt bf tv) (u : Value) : ξ1e W0 (w.setCell ⟨bt, 0, none⟩ u) bt bf u ∧ w.grownBy (w.setCell ⟨bt, 0, none⟩ u) (some bt) := by
 have hu := ξx w bt 0 u
 refine ⟨⟨Gr.set h.g (by have := h.n.2; omega) _, ?_, h.f.upd hu h.n.1.symm, h.n⟩, ξg.set bt w 0 u⟩
 have := h.t.set 0 u
 simpa using this
def DepR (d : Nat) (S : List ξ6) (W0 w : World) (bt bf : Nat) (r : Value) (w' : World) : Prop :=
 r = .tuple #[.int .i64 (d : Int), .bool true] ∧ w.grownBy w' (some bt) ∧ ∃ pt nt ct, ξ1e W0 w' bt bf (.slice pt nt ct) ∧ ξu W0 (.slice pt nt ct) S 4 ∧ nt = S.length
theorem ξcX {N S : List ξ6} {d : Nat} (W0 : World) (bt bf : Nat) (h : Dep N d S) : ∀ (w : World) (pt : Option Addr) (ct nt : Nat), nt = N.length → ξ1e W0 w bt bf (.slice pt nt ct) → ξu W0 (.slice pt nt ct) N 4 → N.length ≤ 1000 →
  Calls Tryz.prog 35 #[.pointer (some ⟨bt, 0, none⟩), .pointer (some ⟨bf, 0, none⟩)] w (fun e w' => ∃ r, e = .returned r ∧ DepR d S W0 w bt bf r w') := by
 induction h with
 | @leaf n t h0 =>
  intro w pt ct nt hnt he hno hle
  clear hle
  have HE := ξ he
  obtain ⟨b, o, x, rfl, hx, hc, hrest⟩ := ξ3y hno
  have HRE := ξ hrest
  have HNT := ξ hnt
  have t0 : w.cell? ⟨bt, 0, none⟩ = some (.slice (some ⟨b, o, none⟩) nt ct) := he.t.at 0 rfl
  have hnt0 : ((nt : Int) == 0) = false := by simp; simp at hnt; omega
  have c0 := hc w he.g 0 _ rfl
  obtain ⟨kd, mp, mn, mc, var, pos, ck, cp, cn, cc, row, vp, vn, vc2⟩ := x
  have hkd : kd = 0 := hx.kind.trans h0
  subst hkd
  rw [Nat.add_zero] at c0
  have hlt : 0 < nt := by simp at hnt; omega
  have hlt' : (0 : Int) < (nt : Int) := by omega
  have hlt2 : (1 : Int) ≤ (nt : Int) := by omega
  have f1 := ξ0.f he.t 0
  clear he hno hx hc hrest hnt
  dsimp only at c0
  by_cases hct : ct = 1
  ·subst hct
   obtain ⟨W3, hW3⟩ : ∃ z, w.setCell ⟨bt, 0, none⟩ (.slice (some ⟨b, o, none⟩) (nt - 1) 0) = z := ⟨_, rfl⟩
   have HE3 := ξ1e.set HE.out (.slice (some ⟨b, o, none⟩) (nt - 1) 0)
   rw [hW3] at HE3
   have HE3 := ξ HE3
   have HR3 := ξ (show ξu W0 (.slice (some ⟨b, o, none⟩) (nt - 1) 0) t 4 from (by have := HRE.out (some ⟨b, o, none⟩) (.inr rfl); exact this))
   have HLN := ξ (show nt - 1 = t.length from by have := HNT.out; simp at this; omega)
   go_enter Tryz.func35, Tryz.ntmps35
   go_wp2_with fail
   clear t0 hnt0 c0 hlt hlt' hlt2 f1 hW3
   try rw [Exit.noGoto_ret]
   refine bodyPost_ret (by simp [results, Tryz.results35, go_sem]; rfl) rfl ?_
   exact ⟨_, rfl, rfl, HE3.out.2, _, _, _, HE3.out.1, HR3.out, HLN.out⟩
  ·have hct' : (ct == 1) = false := by simpa using hct
   obtain ⟨W3, hW3⟩ : ∃ z, w.setCell ⟨bt, 0, none⟩ (.slice (some ⟨b, o + 8, none⟩) (nt - 1) (ct - 1)) = z := ⟨_, rfl⟩
   have HE3 := ξ1e.set HE.out (.slice (some ⟨b, o + 8, none⟩) (nt - 1) (ct - 1))
   rw [hW3] at HE3
   have HE3 := ξ HE3
   have HR3 := ξ (show ξu W0 (.slice (some ⟨b, o + 8, none⟩) (nt - 1) (ct - 1)) t 4 from (HRE.out _ (.inl rfl)))
   have HLN := ξ (show nt - 1 = t.length from by have := HNT.out; simp at this; omega)
   go_enter Tryz.func35, Tryz.ntmps35
   go_wp2_with fail
   clear t0 hnt0 c0 hlt hlt' hlt2 f1 hW3
   try rw [Exit.noGoto_ret]
   refine bodyPost_ret (by simp [results, Tryz.results35, go_sem]; rfl) rfl ?_
   exact ⟨_, rfl, rfl, HE3.out.2, _, _, _, HE3.out.1, HR3.out, HLN.out⟩
 | @split n t r s d e h0 h1 h2 i1 i2 =>
  intro w pt ct nt hnt he hno hle
  have HI1 := ξ i1
  have HI2 := ξ i2
  have HD1 := ξ h1.le
  have HD2 := ξ h2.le
  have HLE := ξ hle
  clear i1 i2 h1 h2 hle
  have HE := ξ he
  obtain ⟨b, o, x, rfl, hx, hc, hrest⟩ := ξ3y hno
  have HRE := ξ hrest
  have HNT := ξ hnt
  have t0 : w.cell? ⟨bt, 0, none⟩ = some (.slice (some ⟨b, o, none⟩) nt ct) := he.t.at 0 rfl
  have hnt0 : ((nt : Int) == 0) = false := by simp; simp at hnt; omega
  have c0 := hc w he.g 0 _ rfl
  obtain ⟨kd, mp, mn, mc, var, pos, ck, cp, cn, cc, row, vp, vn, vc2⟩ := x
  have hkd : kd = 2 := hx.kind.trans h0
  subst hkd
  rw [Nat.add_zero] at c0
  have hlt : 0 < nt := by simp at hnt; omega
  have hlt' : (0 : Int) < (nt : Int) := by omega
  have hlt2 : (1 : Int) ≤ (nt : Int) := by omega
  have f1 := ξ0.f he.t 0
  clear he hno hx hc hrest hnt
  dsimp only at c0
  by_cases hct : ct = 1
  ·subst hct
   obtain ⟨W3, hW3⟩ : ∃ z, w.setCell ⟨bt, 0, none⟩ (.slice (some ⟨b, o, none⟩) (nt - 1) 0) = z := ⟨_, rfl⟩
   have HE3 := ξ1e.set HE.out (.slice (some ⟨b, o, none⟩) (nt - 1) 0)
   rw [hW3] at HE3
   have HE3 := ξ HE3
   have HR3 := ξ (show ξu W0 (.slice (some ⟨b, o, none⟩) (nt - 1) 0) t 4 from (by have := HRE.out (some ⟨b, o, none⟩) (.inr rfl); exact this))
   have HLN := ξ (show nt - 1 = t.length from by have := HNT.out; simp at this; omega)
   have f3 := HE3.out.1.f.at 0 rfl
   unfold depF at f3
   go_enter Tryz.func35, Tryz.ntmps35
   go_wp2_with fail
   clear t0 hnt0 c0 hlt hlt' hlt2 f1 hW3 f3
   refine (HI1.out W3 (some ⟨b, o, none⟩) 0 (nt - 1) HLN.out HE3.out.1 HR3.out (by have := HLE.out; simp at this; omega)).mono ?_
   rintro _ w4 ⟨r4, rfl, rfl, g4, p4, n4, c4, he4, hno4, hl4⟩
   have HE4 := ξ he4
   have HNO4 := ξ (And.intro hno4 hl4)
   have GG := ξ (ξf HE3.out.2 g4)
   have f4 := he4.f.at 0 rfl
   unfold depF at f4
   clear he4 hno4 hl4 g4
   go_wp2_with fail
   clear f4
   refine (HI2.out w4 p4 c4 n4 HNO4.out.2 HE4.out HNO4.out.1 (by have := HD1.out; have := HLE.out; simp at this; omega)).mono ?_
   rintro _ w5 ⟨r5, rfl, rfl, g5, p5, n5, c5, he5, hno5, hl5⟩
   have HE5 := ξ he5
   have HNO5 := ξ (And.intro hno5 hl5)
   have GG := ξ (ξf GG.out g5)
   clear he5 hno5 hl5 g5
   have hmx : max (d : Int) (e : Int) = ((max d e : Nat) : Int) := by omega
   obtain ⟨m, hm⟩ : ∃ m, max d e = m := ⟨_, rfl⟩
   rw [hm] at hmx
   have hmb : m ≤ 1000 := by have := HD1.out; have := HD2.out; have := HLE.out; simp at this; omega
   have hwr : IntKind.i64.wrap (1 + (m : Int)) = 1 + (m : Int) := by rw [IntKind.wrap_i64]; omega
   have HM := ξ hm
   clear hm
   go_wp2_with fail
   try rw [Exit.noGoto_ret]
   refine bodyPost_ret (by simp [results, Tryz.results35, go_sem]; rfl) rfl ?_
   exact ⟨_, rfl, by rw [HM.out]; simp, GG.out, _, _, _, HE5.out, HNO5.out.1, HNO5.out.2⟩
  ·have hct' : (ct == 1) = false := by simpa using hct
   obtain ⟨W3, hW3⟩ : ∃ z, w.setCell ⟨bt, 0, none⟩ (.slice (some ⟨b, o + 8, none⟩) (nt - 1) (ct - 1)) = z := ⟨_, rfl⟩
   have HE3 := ξ1e.set HE.out (.slice (some ⟨b, o + 8, none⟩) (nt - 1) (ct - 1))
   rw [hW3] at HE3
   have HE3 := ξ HE3
   have HR3 := ξ (show ξu W0 (.slice (some ⟨b, o + 8, none⟩) (nt - 1) (ct - 1)) t 4 from (HRE.out _ (.inl rfl)))
   have HLN := ξ (show nt - 1 = t.length from by have := HNT.out; simp at this; omega)
   have f3 := HE3.out.1.f.at 0 rfl
   unfold depF at f3
   go_enter Tryz.func35, Tryz.ntmps35
   go_wp2_with fail
   clear t0 hnt0 c0 hlt hlt' hlt2 f1 hW3 f3
   refine (HI1.out W3 (some ⟨b, o + 8, none⟩) (ct - 1) (nt - 1) HLN.out HE3.out.1 HR3.out (by have := HLE.out; simp at this; omega)).mono ?_
   rintro _ w4 ⟨r4, rfl, rfl, g4, p4, n4, c4, he4, hno4, hl4⟩
   have HE4 := ξ he4
   have HNO4 := ξ (And.intro hno4 hl4)
   have GG := ξ (ξf HE3.out.2 g4)
   have f4 := he4.f.at 0 rfl
   unfold depF at f4
   clear he4 hno4 hl4 g4
   go_wp2_with fail
   clear f4
   refine (HI2.out w4 p4 c4 n4 HNO4.out.2 HE4.out HNO4.out.1 (by have := HD1.out; have := HLE.out; simp at this; omega)).mono ?_
   rintro _ w5 ⟨r5, rfl, rfl, g5, p5, n5, c5, he5, hno5, hl5⟩
   have HE5 := ξ he5
   have HNO5 := ξ (And.intro hno5 hl5)
   have GG := ξ (ξf GG.out g5)
   clear he5 hno5 hl5 g5
   have hmx : max (d : Int) (e : Int) = ((max d e : Nat) : Int) := by omega
   obtain ⟨m, hm⟩ : ∃ m, max d e = m := ⟨_, rfl⟩
   rw [hm] at hmx
   have hmb : m ≤ 1000 := by have := HD1.out; have := HD2.out; have := HLE.out; simp at this; omega
   have hwr : IntKind.i64.wrap (1 + (m : Int)) = 1 + (m : Int) := by rw [IntKind.wrap_i64]; omega
   have HM := ξ hm
   clear hm
   go_wp2_with fail
   try rw [Exit.noGoto_ret]
   refine bodyPost_ret (by simp [results, Tryz.results35, go_sem]; rfl) rfl ?_
   exact ⟨_, rfl, by rw [HM.out]; simp, GG.out, _, _, _, HE5.out, HNO5.out.1, HNO5.out.2⟩
theorem ξ7M {N : List ξ6} {d : Nat} (w : World) (pt : Option Addr) (nt ct : Nat) (hnt : nt = N.length) (hno : ξu w (.slice pt nt ct) N 4) (h : Dep N d []) (hle : N.length ≤ 1000) :
  Calls Tryz.prog 18 #[.slice pt nt ct] w (Ret w fun r _ => r = .tuple #[.int .i64 (d : Int), .bool true]) := by
 have HNO := ξ (And.intro hno hnt)
 have HD := ξ h
 have B0 := ξ0.new w #[.slice pt nt ct] 26
 have B1 := ξ0.new (w.alloc (.cells #[.slice pt nt ct] 26)) #[.nilFunc] 82
 simp only [World.size_alloc] at B1
 obtain ⟨W, hW⟩ : ∃ z, (w.alloc (.cells #[.slice pt nt ct] 26)).alloc (.cells #[.nilFunc] 82) = z := ⟨_, rfl⟩
 rw [hW] at B1
 have HB := ξ (show _ ∧ ξ0 _ _ #[.slice pt nt ct] ∧ ξ0 _ _ #[.nilFunc] from ⟨B0.1.trans B1.1, B0.2.grow B1.1, B1.2⟩)
 obtain ⟨W2, hW2⟩ : ∃ z, W.setCell ⟨w.heap.size + 1, 0, none⟩ (.func (.func 35) #[] #[.pointer (some ⟨w.heap.size, 0, none⟩), .pointer (some ⟨w.heap.size + 1, 0, none⟩)]) = z := ⟨_, rfl⟩
 have hu : Upd (w.heap.size + 1) W W2 := by rw [← hW2]; exact ξx W _ 0 _
 have HE := ξ (show ξ1e w W2 w.heap.size (w.heap.size + 1) (.slice pt nt ct) from by
  refine ⟨by rw [← hW2]; exact Gr.set HB.out.1 (by omega) _, HB.out.2.1.upd hu (by omega), ?_, by omega, Nat.le_refl _⟩
  have h := HB.out.2.2.set 0 (depF w.heap.size (w.heap.size + 1))
  unfold depF at h ⊢
  rw [hW2] at h
  simpa using h)
 have f0 := ξ0.f HB.out.2.2 0
 have z0 : W.cell? ⟨w.heap.size + 1, 0, none⟩ = some .nilFunc := HB.out.2.2.at 0 rfl
 have v0 : W2.cell? ⟨w.heap.size + 1, 0, none⟩ = some (.func (.func 35) #[] #[.pointer (some ⟨w.heap.size, 0, none⟩), .pointer (some ⟨w.heap.size + 1, 0, none⟩)]) := HE.out.f.at 0 rfl
 clear hno hnt h B0 B1 hu
 go_enter Tryz.func18, Tryz.ntmps18
 go_wp2_with fail
 clear hW hW2 f0 z0 v0
 refine (ξcX w _ _ HD.out W2 pt ct nt HNO.out.2 HE.out HNO.out.1 hle).mono ?_
 rintro _ w3 ⟨r3, rfl, rfl, g3, p3, n3, c3, he3, hno3, hl3⟩
 obtain rfl : n3 = 0 := hl3
 have G3 := ξ he3.g
 have t0 := he3.t.at 0 rfl
 clear g3 he3 hno3
 go_wp2_with fail
 try rw [Exit.noGoto_ret]
 refine bodyPost_ret (by simp [results, Tryz.results18, go_sem]; rfl) rfl ?_
 exact ⟨_, rfl, G3.out, rfl⟩
end Prf
end Go.Proofs.YtcjgimlcefhhmaaGreatDoor

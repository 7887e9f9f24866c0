/- Texts: PvC PvD PxB PxC PxD. -/
import Derived.Lib.SmallJoins
import Derived.Test.YtcjgimlcefhhmaaGreatDoorW4
import Derived.Test.YtcjgimlcefhhmaaGreatDoorW20
import Derived.Test.YtcjgimlcefhhmaaGreatDoorW42
set_option linter.unusedVariables false
set_option linter.unusedSimpArgs false
set_option maxRecDepth 100000
set_option maxHeartbeats 12800000
namespace Go.Proofs.YtcjgimlcefhhmaaGreatDoor
namespace Prf
open Go.RowKit Go.Lib
def OKV (x : VarM) : Prop := x.ig = true ∧ x.op = false
theorem ξar (w : World) (x : VarM) : Calls Tryz.prog 42 (#[mkVar x] ++ #[]) w (Ret w fun r _ => ξ1 (¬ OKV x) r) := by
 show Calls _ _ #[.agg #[.int .i64 x.lo, .int .i64 x.up, .bool x.op, .bool x.ig, .int .i64 x.cost]] _ _
 obtain ⟨op, hop⟩ : ∃ b, x.op = b := ⟨_, rfl⟩
 obtain ⟨ig, hig⟩ : ∃ b, x.ig = b := ⟨_, rfl⟩
 have HO := ξ (And.intro hop hig)
 rw [hop, hig]
 have HG := ξ (show Gr w (w.alloc (.cells #[.int .i64 x.lo, .int .i64 x.up, .bool op, .bool ig, .int .i64 x.cost] 62)) from (Gr.refl _).alloc _)
 clear hop hig
 cases ig
 ·have H := ξ (show ¬ OKV x from fun h => by have h1 := h.1; rw [HO.out.2] at h1; cases h1)
  go_enter Tryz.func42, Tryz.ntmps42
  go_wp2_with fail
  go_ret
  exact ⟨_, rfl, HG.out, ξ1.yes H.out⟩
 ·cases op
  ·have H := ξ (show ¬ ¬ OKV x from fun h => h ⟨HO.out.2, HO.out.1⟩)
   go_enter Tryz.func42, Tryz.ntmps42
   go_wp2_with fail
   go_ret
   exact ⟨_, rfl, HG.out, ξ1.no H.out⟩
  ·have H := ξ (show ¬ OKV x from fun h => by have h1 := h.2; rw [HO.out.1] at h1; cases h1)
   go_enter Tryz.func42, Tryz.ntmps42
   go_wp2_with fail
   go_ret
   exact ⟨_, rfl, HG.out, ξ1.yes H.out⟩
theorem ξ8a (w : World) (v : Value) (p : Prg) (hp : ξC w v p) (hi : PrgI p) (hl : ∀ r ∈ p.rows, r.name.length ≤ 1000000) (hn : p.vars.length ≤ 1000000) (hm : p.rows.length ≤ 1000000) :
  Calls Tryz.prog 23 #[v] w (Ret w fun r _ => ξ1 (ξr p ∧ Whole p) r) := by
 have HI := ξ hi
 have HL := ξ hl
 have HP := ξ hp
 clear hi hl
 obtain ⟨va, vc, vb, vd, rfl, hv, hr⟩ := hp
 have HV := ξ hv
 have HR := ξ hr
 obtain ⟨_, _, _, hvb1, hvb2⟩ := SlL.parts hv
 obtain ⟨_, _, _, hrb1, hrb2⟩ := hr.parts
 clear hv hr
 have B0 := ξ0.new w #[.slice va p.vars.length vc, .slice vb p.rows.length vd] 25
 have HB := ξ B0
 unfold prgV
 clear B0
 unfold prgV at HP
 go_enter Tryz.func23, Tryz.ntmps23
 go_wp2_with fail
 generalize w.heap.size = bp at HB ⊢
 generalize w.alloc _ = W at HB ⊢
 have G := ξ HB.out.1
 have TP := ξ HB.out.2
 clear HB
 refine (ξ5y W _ p (HP.out.grow G.out) HI.out HL.out hn hm).mono ?_
 rintro _ w1 ⟨r1, rfl, g1, h1⟩
 have G := ξ (G.out.trans g1)
 have TP := ξ (TP.out.grow g1)
 rcases h1.cases with ⟨rfl, k1⟩ | ⟨rfl, k1⟩
 rotate_left
 ·have H := ξ (show ¬ (ξr p ∧ Whole p) from fun h => k1 h.1)
  clear h1 k1 g1
  go_wp2_with fail
  go_ret
  exact ⟨_, rfl, G.out, ξ1.no H.out⟩
 have H1 := ξ k1
 have y0 := TP.out.at 0 rfl
 clear h1 k1 g1
 go_wp2_with fail
 clear y0
 refine (ξ7v w1 va p.vars.length vc p.vars (.func (.func 42) #[] #[]) (fun x => ¬ OKV x) (SlL.grow HV.out G.out) rfl (by omega) ⟨_, _, rfl, enters_of Tryz.func42 (by kernel_rfl) rfl, fun w' _ x _ => ξar w' x⟩).mono ?_
 rintro _ w2 ⟨r2, rfl, g2, h2⟩
 have G := ξ (G.out.trans g2)
 rcases h2.cases with ⟨rfl, k2⟩ | ⟨rfl, k2⟩
 ·have H := ξ (show ¬ (ξr p ∧ Whole p) from fun h => by obtain ⟨x, hx, hh⟩ := k2; exact hh (h.2 x hx))
  clear h2 k2 g2
  go_wp2_with fail
  go_ret
  exact ⟨_, rfl, G.out, ξ1.no H.out⟩
 ·have H := ξ (show ξr p ∧ Whole p from ⟨H1.out, fun x hx => Classical.not_not.1 fun h => k2 ⟨x, hx, h⟩⟩)
  clear h2 k2 g2
  go_wp2_with fail
  go_ret
  exact ⟨_, rfl, G.out, ξ1.yes H.out⟩
structure ξ08 (n : ξ6) : Prop where
 m : n.mult.length ≤ 16
 ms : ∀ x ∈ n.mult, Sz 4 x
 c : n.cut.mult.length ≤ 16
 cs : ∀ x ∈ n.cut.mult, Sz 4 x
 v : n.cut.vars.length ≤ 1000
theorem ξ2l (w : World) (va vb : Option Addr) (vc vd n m : Nat) (x : ξb) :
  Gr w ((w.alloc (.cells #[.slice va n vc, .slice vb m vd] 25)).alloc (.cells (nodeA x) 47)) ∧ ξ0 ((w.alloc (.cells #[.slice va n vc, .slice vb m vd] 25)).alloc (.cells (nodeA x) 47)) w.heap.size #[.slice va n vc, .slice vb m vd] ∧
   ξ0 ((w.alloc (.cells #[.slice va n vc, .slice vb m vd] 25)).alloc (.cells (nodeA x) 47)) (w.heap.size + 1) (nodeA x) := by
 have B0 := ξ0.new w #[.slice va n vc, .slice vb m vd] 25
 have B1 := ξ0.new (w.alloc (.cells #[.slice va n vc, .slice vb m vd] 25)) (nodeA x) 47
 rw [World.size_alloc] at B1
 exact ⟨B0.1.trans B1.1, B0.2.grow B1.1, B1.2⟩
theorem ξ86 (w : World) (v : Value) (p : Prg) (x : ξb) (n : ξ6) (hp : ξC w v p) (hx : ξS w x n 4) (hk : ξr p) (hw : Whole p) (hn : p.vars.length ≤ 10) (hm : p.rows.length ≤ 40) (hf : ξ08 n) :
  Calls Tryz.prog 43 #[v, .agg (nodeA x)] w (Ret w fun r _ => ξ1 (n.mult.length ≤ p.rows.length ∧ ξ27 p n.mult) r) := by
 have HK := ξ hk
 have HW := ξ hw
 have HP := ξ hp
 have HCM := ξ (ξ7O hf.ms hf.m hk.2.2.2 hk.2.2.1 hm hn)
 have HMN := ξ hx.mn
 have HM := ξ hx.mult
 obtain ⟨va, vc, vb, vd, rfl, hv, hr⟩ := hp
 have HB := ξ (ξ2l w va vb vc vd p.vars.length p.rows.length x)
 obtain ⟨kd, mp, mn, mc, var, pos, ck, cp, cn, cc, row, vp, vn, vc2⟩ := x
 dsimp only at HMN HM
 unfold nodeA at HB ⊢
 dsimp only at HB ⊢
 have hmn16 : n.mult.length ≤ 16 := hf.m
 have e := HMN.out
 clear HMN
 subst e
 clear hk hw hv hr hx hf
 unfold prgV at HP ⊢
 by_cases h : n.mult.length ≤ p.rows.length
 ·have HLE := ξ h
  have h' : (n.mult.length : Int) ≤ (p.rows.length : Int) := by omega
  go_enter Tryz.func43, Tryz.ntmps43
  go_wp2_with fail
  generalize w.heap.size + 1 = bn at HB ⊢
  generalize w.heap.size = bp at HB ⊢
  generalize (w.alloc _).alloc _ = W at HB ⊢
  refine (ξ6s W _ p mp mc n.mult (HP.out.grow HB.out.1) (HM.out.grow HB.out.1) HCM.out HK.out HW.out).mono ?_
  rintro _ w2 ⟨r2, rfl, g2, h2⟩
  have G := ξ (HB.out.1.trans g2)
  rcases h2.cases with ⟨rfl, k2⟩ | ⟨rfl, k2⟩
  ·have H := ξ (And.intro HLE.out k2)
   clear h2 k2 g2
   go_wp2_with fail
   go_ret
   exact ⟨_, rfl, G.out, ξ1.yes H.out⟩
  ·have H := ξ (show ¬ (n.mult.length ≤ p.rows.length ∧ ξ27 p n.mult) from fun h => k2 h.2)
   clear h2 k2 g2
   go_wp2_with fail
   go_ret
   exact ⟨_, rfl, G.out, ξ1.no H.out⟩
 ·have H := ξ (show ¬ (n.mult.length ≤ p.rows.length ∧ ξ27 p n.mult) from fun k => h k.1)
  have h' : ¬ (n.mult.length : Int) ≤ (p.rows.length : Int) := by omega
  go_enter Tryz.func43, Tryz.ntmps43
  go_wp2_with fail
  go_ret
  exact ⟨_, rfl, HB.out.1, ξ1.no (by first | exact H.out | simp)⟩
def ξ3l (p : Prg) (j : Int) : Prop := 0 ≤ j ∧ ∃ v, p.vars[j.toNat]? = some v ∧ v.up < v.lo
theorem ξ85 (w : World) (v : Value) (p : Prg) (x : ξb) (n : ξ6) (hp : ξC w v p) (hx : ξS w x n 4) (hn : p.vars.length ≤ 1000000) :
  Calls Tryz.prog 45 #[v, .agg (nodeA x)] w (Ret w fun r _ => ξ1 (ξ3l p n.var) r) := by
 have HNV := ξ hx.var
 obtain ⟨va, vc, vb, vd, rfl, hv, hr⟩ := hp
 have HV := ξ hv
 have HB := ξ (ξ2l w va vb vc vd p.vars.length p.rows.length x)
 obtain ⟨kd, mp, mn, mc, var, pos, ck, cp, cn, cc, row, vp, vn, vc2⟩ := x
 dsimp only at HNV
 unfold nodeA at HB ⊢
 dsimp only at HB ⊢
 clear hv hr hx
 unfold prgV
 go_enter Tryz.func45, Tryz.ntmps45
 go_wp2_with fail
 generalize w.heap.size + 1 = bn at HB ⊢
 generalize w.heap.size = bp at HB ⊢
 generalize (w.alloc _).alloc _ = W at HB ⊢
 have x2 := HB.out.2.2.c 2 rfl
 have y0 := HB.out.2.1.c 0 rfl
 have g0 : Gr W W.drew := (Gr.refl _).drew
 by_cases h0 : 0 ≤ var
 ·by_cases h1 : var < (p.vars.length : Int)
  ·obtain ⟨jn, rfl⟩ : ∃ j : Nat, var = (j : Int) := ⟨var.toNat, by omega⟩
   have hj : jn < p.vars.length := by omega
   obtain ⟨b, o, u, rfl, hu, hc⟩ := ξ24 HV.out rfl hj
   have HU := ξ hu
   have c0 := fun w' g => (hc w' (HB.out.1.trans g)).1
   have c1 := fun w' g => (hc w' (HB.out.1.trans g)).2.1
   clear hc hu h0 h1
   have h0 : (0 : Int) ≤ (jn : Int) := by omega
   have h1 : (jn : Int) < (p.vars.length : Int) := by omega
   by_cases h2 : u.up < u.lo
   ·have H := ξ (show ξ3l p n.var from ⟨by rw [← HNV.out]; omega, u, by rw [← HNV.out, Int.toNat_natCast]; exact HU.out, h2⟩)
    refine ξ3 [(0, true), (1, true), (2, true), (3, true), (4, true), (5, true), (6, true), (7, true), (8, true), (9, true), (10, true), (11, true), (12, true), (13, true), (14, true), (15, true), (16, true), (17, true), (18, true), (19, true), (20, true), (21, true), (22, true), (23, true), (24, true), (25, true), (26, true), (27, true), (28, true)] (by kernel_rfl) (by kernel_rfl) rfl (by kernel_rfl) (fun _ _ d _ _ h => by cases d <;> exact h) ?_
    generalize W.drew = Wd at g0 ⊢
    repeat (first | (refine ξ0g rfl rfl ?_; go_simp) | (refine ξ2 (v := ?_) g0 rfl rfl (fun w' hg => ?_) (fun K hK => ?_); rotate_left; (go_simp; rfl); go_simp; refine hK _ _ ?_; clear hK K))
    refine ξ9 ?_
    have G := ξ (HB.out.1.trans g0)
    clear g0
    go_wp2_with fail
    go_ret
    exact ⟨_, rfl, G.out, ξ1.yes H.out⟩
   ·have e2 : decide (u.up < u.lo) = false := decide_eq_false h2
    have HX := ξ h2
    have H := ξ (show ¬ ξ3l p n.var from fun h => by (obtain ⟨-, z, hz, hl⟩ := h; rw [← HNV.out, Int.toNat_natCast, HU.out] at hz; cases hz; exact HX.out hl))
    refine ξ3 [(0, true), (1, true), (2, true), (3, true), (4, true), (5, true), (6, true), (7, true), (8, true), (9, true), (10, true), (11, true), (12, true), (13, true), (14, true), (15, true), (16, true), (17, true), (18, true), (19, true), (20, true), (21, true), (22, true), (23, true), (24, true), (25, true), (26, true), (27, true), (28, true)] (by kernel_rfl) (by kernel_rfl) rfl (by kernel_rfl) (fun _ _ d _ _ h => by cases d <;> exact h) ?_
    generalize W.drew = Wd at g0 ⊢
    repeat (first | (refine ξ0g rfl rfl ?_; go_simp) | (refine ξ2 (v := ?_) g0 rfl rfl (fun w' hg => ?_) (fun K hK => ?_); rotate_left; (go_simp; rfl); go_simp; refine hK _ _ ?_; clear hK K))
    refine ξ9 ?_
    have G := ξ (HB.out.1.trans g0)
    clear g0
    go_wp2_with fail
    go_ret
    exact ⟨_, rfl, G.out, ξ1.no H.out⟩
  ·have e2 : decide (var < (p.vars.length : Int)) = false := decide_eq_false h1
   have HX := ξ h1
   have H := ξ (show ¬ ξ3l p n.var from fun h => by (obtain ⟨h0, z, hz, hl⟩ := h; rw [← HNV.out] at hz; have := (List.getElem?_eq_some_iff.1 hz).1; have := HX.out; omega))
   refine ξ3 [(0, true), (1, true), (2, true), (3, true), (4, true), (5, true), (6, true), (7, true), (8, true), (9, true), (10, true), (11, true), (12, true), (13, true), (14, true), (15, true), (16, true), (17, true), (18, true), (19, true), (20, true), (21, true), (22, true), (23, true), (24, true), (25, true), (26, true), (27, true), (28, true)] (by kernel_rfl) (by kernel_rfl) rfl (by kernel_rfl) (fun _ _ d _ _ h => by cases d <;> exact h) ?_
   generalize W.drew = Wd at g0 ⊢
   repeat (first | (refine ξ0g rfl rfl ?_; go_simp) | (refine ξ2 (v := ?_) g0 rfl rfl (fun w' hg => ?_) (fun K hK => ?_); rotate_left; (go_simp; rfl); go_simp; refine hK _ _ ?_; clear hK K))
   refine ξ9 ?_
   have G := ξ (HB.out.1.trans g0)
   clear g0
   go_wp2_with fail
   go_ret
   exact ⟨_, rfl, G.out, ξ1.no H.out⟩
 ·have e2 : decide (0 ≤ var) = false := decide_eq_false h0
  have HX := ξ h0
  have H := ξ (show ¬ ξ3l p n.var from fun h => HX.out (by rw [HNV.out]; exact h.1))
  refine ξ3 [(0, true), (1, true), (2, true), (3, true), (4, true), (5, true), (6, true), (7, true), (8, true), (9, true), (10, true), (11, true), (12, true), (13, true), (14, true), (15, true), (16, true), (17, true), (18, true), (19, true), (20, true), (21, true), (22, true), (23, true), (24, true), (25, true), (26, true), (27, true), (28, true)] (by kernel_rfl) (by kernel_rfl) rfl (by kernel_rfl) (fun _ _ d _ _ h => by cases d <;> exact h) ?_
  generalize W.drew = Wd at g0 ⊢
  repeat (first | (refine ξ0g rfl rfl ?_; go_simp) | (refine ξ2 (v := ?_) g0 rfl rfl (fun w' hg => ?_) (fun K hK => ?_); rotate_left; (go_simp; rfl); go_simp; refine hK _ _ ?_; clear hK K))
  refine ξ9 ?_
  have G := ξ (HB.out.1.trans g0)
  clear g0
  go_wp2_with fail
  go_ret
  exact ⟨_, rfl, G.out, ξ1.no H.out⟩
end Prf
end Go.Proofs.YtcjgimlcefhhmaaGreatDoor
namespace Go.Proofs.YtcjgimlcefhhmaaGreatDoor
open Go.RowKit Go.Lib
theorem SlL.rest {α : Type} {enc : α → List Value} {sz : Nat} {w : World} {b o n c : Nat} {l : List α} (he : ∀ x, (enc x).length = sz) (h : SlL w sz enc (.slice (some ⟨b, o, none⟩) n c) l) {k : Nat} (hk : k ≤ l.length) (q : Option Addr) (hq : q = some ⟨b, o + k * sz, none⟩ ∨ c = k) : SlL w sz enc (.slice q (n - k) (c - k)) (l.drop k) := by
 have hn : l.length = n := by
  obtain ⟨p', c', hv, _⟩ := h.parts
  injection hv with _ h2 _
  exact h2.symm
 obtain ⟨h0, p', c', hv, h1, h2, h3⟩ := h
 injection hv with e1 e2 e3
 subst e1 e3
 have hl : (l.drop k).length = n - k := by rw [List.length_drop, hn]
 unfold SlL
 rw [hl]
 refine ⟨by rw [ξU he, hl], q, c - k, rfl, by omega, by omega, ?_⟩
 rcases hq with hq | hq
 ·rcases h3 with h3 | ⟨b', o', hp, hc⟩
  ·left; omega
  ·injection hp with hp
   injection hp with e1 e2 _
   subst e1 e2
   refine .inr ⟨b, o + k * sz, hq, fun j u hj => ?_⟩
   have := hc (k * sz + j) u (by
    have e : l.flatMap enc = (l.take k).flatMap enc ++ (l.drop k).flatMap enc := by rw [← List.flatMap_append, List.take_append_drop]
    have hlt : (List.flatMap enc (l.take k)).length = k * sz := by rw [ξU he, List.length_take, Nat.min_eq_left hk]
    rw [e, List.getElem?_append_right (by rw [hlt]; omega), hlt, show k * sz + j - k * sz = j by omega]
    exact hj)
   rw [← Nat.add_assoc] at this
   exact this
 ·left; omega
namespace Prf
theorem ξ3y {w : World} {p : Option Addr} {n c L : Nat} {x : ξ6} {N : List ξ6} (h : ξu w (.slice p n c) (x :: N) L) :
  ∃ b o t, p = some ⟨b, o, none⟩ ∧ ξS w t x L ∧ (∀ w', Gr w w' → ∀ j u, (encNode t)[j]? = some u → w'.cell? ⟨b, o + j, none⟩ = some u) ∧ ∀ q, (q = some ⟨b, o + 8, none⟩ ∨ c = 1) → ξu w (.slice q (n - 1) (c - 1)) N L := by
 obtain ⟨T, h1, h2, h3⟩ := h
 have hn : T.length = n := by
  obtain ⟨p', c', e, _⟩ := h1.parts
  cases e; rfl
 have h2' : T.length = N.length + 1 := by simpa using h2
 obtain ⟨b, o, t, hp, ht, hc⟩ := h1.at ξp hn (k := 0) (by omega)
 subst hp
 refine ⟨b, o, t, rfl, h3 0 t x ht rfl, fun w' g j u hj => by have := hc j u hj w' g; rw [Nat.zero_mul, Nat.add_zero] at this; exact this, fun q hq => ?_⟩
 refine ⟨T.drop 1, SlL.rest ξp h1 (by omega) q (by rw [Nat.one_mul]; exact hq), by rw [List.length_drop]; omega, fun i s y hs hy => ?_⟩
 rw [List.getElem?_drop] at hs
 exact h3 (1 + i) s y hs (by rw [Nat.add_comm]; simpa using hy)
def ξK (w : World) (bt : Nat) (v : Value) (p : Prg) : Prop := ∀ w', w.grownBy w' (some bt) → ξC w' v p
theorem ξ5c (w : World) (b : Nat) : w.grownBy w (some b) := ξg.refl b w
theorem ξq {w w' : World} (b : Nat) (g : Gr w w') : w.grownBy w' (some b) := ξg.of_gr g
theorem ξf {w w' w'' : World} {b : Nat} (g : w.grownBy w' (some b)) (h : w'.grownBy w'' (some b)) : w.grownBy w'' (some b) := ξg.trans g h
theorem ξK.at {w : World} {bt : Nat} {v : Value} {p : Prg} (h : ξK w bt v p) : ξC w v p := h w (ξ5c w bt)
theorem ξK.go {w w' : World} {bt : Nat} {v : Value} {p : Prg} (h : ξK w bt v p) (g : w.grownBy w' (some bt)) : ξK w' bt v p := fun w'' k => h w'' (ξf g k)
theorem ξK.new {w : World} {base bt : Nat} {v : Value} {p : Prg} (h : ξ0L w base v p) (hb : bt < base) : ξK w bt v p := fun w' g => (h.kept hb g).at
theorem ξK.part {w w1 : World} {base bt : Nat} {va vb pv : Option Addr} {vc vd cv : Nat} {p q : Prg} (h : ξK w bt (.agg #[.slice va p.vars.length vc, .slice vb p.rows.length vd]) p) (g : w.grownBy w1 (some bt)) (ho : ξg bt w w1) (hq : q.rows = p.rows)
  (h1 : OwnL w1 base 62 5 encVar (.slice pv q.vars.length cv) q.vars) (hb : bt < base) : ξK w1 bt (.agg #[.slice pv q.vars.length cv, .slice vb p.rows.length vd]) q := fun w' k => by
 obtain ⟨a, c, b, d, e, k1, k2⟩ := h w' (ξf g k)
 unfold prgV at e
 injection e with e
 have e1 := congrArg (fun x => x[1]?) e
 simp at e1
 obtain ⟨rfl, rfl⟩ := e1
 refine ⟨pv, cv, vb, vd, by unfold prgV; rw [hq], ?_, by rw [hq]; exact k2⟩
 exact (show OwnL w' base 62 5 encVar (.slice pv q.vars.length cv) q.vars from World.ownsRow.kept h1 k (.inr fun e => by have := (World.ownsRow.lt h1 bt e).1; omega)).read
def visitF (bt bs : Nat) : Value := .func (.func 50) #[] #[.pointer (some ⟨bt, 0, none⟩), .pointer (some ⟨bs, 0, none⟩)]
def stepsL (bv : Nat) : List (Value × Value) := [(.int .i64 0, .func (.func 43) #[] #[]), (.int .i64 1, .func (.func 45) #[] #[]),
 (.int .i64 2, .func (.func 46) #[] #[.pointer (some ⟨bv, 0, none⟩)]), (.int .i64 3, .func (.func 48) #[] #[.pointer (some ⟨bv, 0, none⟩)])]
structure ξ0N (W0 w : World) (bt bv bs bm : Nat) (tv : Value) : Prop where
 g : Gr W0 w
 t : ξ0 w bt #[tv]
 v : ξ0 w bv #[visitF bt bs]
 s : ξ0 w bs #[.map (some bm)]
 m : ξ0P w bm (stepsL bv)
 n : bt ≠ bv ∧ bt ≠ bs ∧ bt ≠ bm ∧ W0.heap.size ≤ bt
theorem ξ0N.grow {W0 w w' : World} {bt bv bs bm : Nat} {tv : Value} (h : ξ0N W0 w bt bv bs bm tv) (g : Gr w w') : ξ0N W0 w' bt bv bs bm tv :=
 ⟨h.g.trans g, h.t.grow g, h.v.grow g, h.s.grow g, h.m.grow g, h.n⟩
theorem ξ0N.set {W0 w : World} {bt bv bs bm : Nat} {tv : Value} (h : ξ0N W0 w bt bv bs bm tv) (u : Value) : ξ0N W0 (w.setCell ⟨bt, 0, none⟩ u) bt bv bs bm u ∧ w.grownBy (w.setCell ⟨bt, 0, none⟩ u) (some bt) := by
 have hu := ξx w bt 0 u
 refine ⟨⟨Gr.set h.g (by have := h.n.2.2.2; omega) _, ?_, h.v.upd hu h.n.1.symm, h.s.upd hu h.n.2.1.symm, ?_, h.n⟩, ξg.set bt w 0 u⟩
 ·have := h.t.set 0 u
  simpa using this
 ·obtain ⟨es, c, h1, h2⟩ := h.m
  exact ⟨es, c, by rw [hu bm h.n.2.2.1.symm]; exact h1, h2⟩
def VisR (p : Prg) (N : List ξ6) (W0 w : World) (bt bv bs bm : Nat) (r : Value) (w' : World) : Prop :=
 w.grownBy w' (some bt) ∧ ((∃ S pt nt ct, ξa p N S ∧ r = .bool true ∧ ξ0N W0 w' bt bv bs bm (.slice pt nt ct) ∧ ξu W0 (.slice pt nt ct) S 4 ∧ nt = S.length) ∨ ((¬ ∃ S, ξa p N S) ∧ r = .bool false ∧ ∃ tv, ξ0N W0 w' bt bv bs bm tv))
structure PvP (p : Prg) (k : Nat) : Prop where
 ok : ξr p
 wh : Whole p
 n : p.vars.length ≤ 10
 m : p.rows.length + k ≤ 40
theorem PvP.low {p : Prg} {k : Nat} {j m : Int} (h : PvP p k) (hm : -1099511627776 ≤ m ∧ m < 1099511627776) : PvP (lowPart p j m) k := by
 obtain ⟨a, b⟩ := ξcz h.ok h.wh (v := j) hm.1 hm.2
 exact ⟨a, b, by simp only [lowPart, ξ30]; exact h.n, h.m⟩
theorem PvP.high {p : Prg} {k : Nat} {j m : Int} (h : PvP p k) (hm : -1099511627776 ≤ m ∧ m < 1099511627776) : PvP (highPart p j m) k := by
 obtain ⟨a, b⟩ := ξc7 h.ok h.wh (v := j) hm.1 hm.2
 exact ⟨a, b, by simp only [highPart, ξ37]; exact h.n, h.m⟩
theorem PvP.less {p : Prg} {k k' : Nat} (h : PvP p k) (hk : k' ≤ k) : PvP p k' := ⟨h.ok, h.wh, h.n, by have := h.m; omega⟩
theorem PvP.add {p : Prg} {k : Nat} {c : CutS} {r : RowS} (h : PvP p (k + 1)) (hd : ξ0m p c r) : PvP (addRow p r) k :=
 have hm := h.m
 ⟨ξ50 h.ok (ξ8M h.ok hd) (by omega), h.wh, h.n, by simp only [addRow, List.length_append, List.length_singleton]; omega⟩
theorem ξcb {p : Prg} {S : List ξ6} : ¬ ξa p [] S := fun h => by cases h
theorem ξcO {p : Prg} {N S : List ξ6} (h : ξa p N S) : S.length ≤ N.length ∧ ∀ n ∈ S, n ∈ N := by
 obtain ⟨u, _, rfl, _⟩ := ξ1y h
 exact ⟨by rw [List.length_append]; omega, fun n hn => List.mem_append.2 (.inr hn)⟩
theorem ξK.vars {w : World} {bt : Nat} {va vb : Option Addr} {vc vd : Nat} {p : Prg} (h : ξK w bt (.agg #[.slice va p.vars.length vc, .slice vb p.rows.length vd]) p) : ξ06 w (.slice va p.vars.length vc) p.vars := by
 obtain ⟨a, c, b, d, e, k1, k2⟩ := h.at
 unfold prgV at e
 injection e with e
 have e1 := congrArg (fun x => x[0]?) e
 simp at e1
 obtain ⟨rfl, rfl⟩ := e1
 exact k1
theorem ξK.low {w w1 : World} {base bt : Nat} {va vb pv : Option Addr} {vc vd cv n k : Nat} {p : Prg} {j m : Int} (hn : p.vars.length = n) (hk : p.rows.length = k) (h : ξK w bt (.agg #[.slice va n vc, .slice vb k vd]) p) (g : w.grownBy w1 (some bt))
  (h1 : OwnL w1 base 62 5 encVar (.slice pv n cv) (setUp p.vars j m)) (hb : bt < base) : ξK w1 bt (.agg #[.slice pv n cv, .slice vb k vd]) (lowPart p j m) := by
 subst hn hk
 have e : (lowPart p j m).vars.length = p.vars.length := ξ30 ..
 have := ξK.part (q := lowPart p j m) (pv := pv) (cv := cv) h g g rfl (by rw [e]; exact h1) hb
 rw [e] at this
 exact this
theorem ξK.high {w w1 : World} {base bt : Nat} {va vb pv : Option Addr} {vc vd cv n k : Nat} {p : Prg} {j m : Int} (hn : p.vars.length = n) (hk : p.rows.length = k) (h : ξK w bt (.agg #[.slice va n vc, .slice vb k vd]) p) (g : w.grownBy w1 (some bt))
  (h1 : OwnL w1 base 62 5 encVar (.slice pv n cv) (setLo p.vars j (m + 1))) (hb : bt < base) : ξK w1 bt (.agg #[.slice pv n cv, .slice vb k vd]) (highPart p j m) := by
 subst hn hk
 have e : (highPart p j m).vars.length = p.vars.length := ξ37 ..
 have := ξK.part (q := highPart p j m) (pv := pv) (cv := cv) h g g rfl (by rw [e]; exact h1) hb
 rw [e] at this
 exact this
def VisC (k : Nat) (W0 : World) (bt bv bs bm : Nat) : Prop := ∀ (w : World) (v : Value) (p : Prg) (N : List ξ6) (pt : Option Addr) (ct nt : Nat), N.length < k → nt = N.length → ξ0N W0 w bt bv bs bm (.slice pt nt ct) → ξu W0 (.slice pt nt ct) N 4 → ξK w bt v p →
 PvP p N.length → (∀ n ∈ N, ξ08 n) → Calls Tryz.prog 50 #[v, .pointer (some ⟨bt, 0, none⟩), .pointer (some ⟨bs, 0, none⟩)] w (fun e w' => ∃ r, e = .returned r ∧ VisR p N W0 w bt bv bs bm r w')
theorem VisR.leaf {p : Prg} {N' N : List ξ6} {W0 w w' : World} {bt bv bs bm : Nat} {r : Value} {P : Prop} {pt : Option Addr} {ct nt : Nat} (h : ∀ S, ξa p N' S ↔ P ∧ S = N) (ht : ξ1 P r) (g : Gr w w') (he : ξ0N W0 w bt bv bs bm (.slice pt nt ct)) (hn : ξu W0 (.slice pt nt ct) N 4) (hl : nt = N.length) : VisR p N' W0 w bt bv bs bm r w' := by
 refine ⟨ξq bt g, ?_⟩
 rcases ht.cases with ⟨rfl, k⟩ | ⟨rfl, k⟩
 ·exact .inl ⟨N, pt, nt, ct, (h N).2 ⟨k, rfl⟩, rfl, he.grow g, hn, hl⟩
 ·exact .inr ⟨fun ⟨S, hS⟩ => k ((h S).1 hS).1, rfl, _, he.grow g⟩
end Prf
namespace Inv
section steps
variable {P : Program} {ops : Array Oper} {Q : Exit → Act → World → Prop} {B : World → Prop} {i : Nat} {t : Tr} {a : Act} {w : World} {o : Oper}
theorem ξ1t (ho : ops[i]? = some o) (hw : Region.wanted o (yielded ops a.tmps) = false) (h : ∀ K : Act → World → Prop, (∀ a w, wpL P ops Q B t a w → K a w) → K (a.put o.dst undef) w) : wpL P ops Q B (.read i t) a w := ⟨o, ho, by rw [if_neg (by simp [hw])]; exact h _ (fun _ _ h => h)⟩
theorem ξ1w (ho : ops[i]? = some o) (hw : Region.wanted o (yielded ops a.tmps) = false) (h : ∀ K : Act → World → Prop, (∀ a w, wpL P ops Q B t a w → K a w) → K (a.put o.dst undef) w) : wpL P ops Q B (.one i t) a w := ⟨o, ho, by rw [if_neg (by simp [hw])]; exact h _ (fun _ _ h => h)⟩
end steps
end Inv
end Go.Proofs.YtcjgimlcefhhmaaGreatDoor
namespace Go.Proofs.YtcjgimlcefhhmaaGreatDoor
namespace Prf
open Go.RowKit Go.Lib
theorem ξaj (w : World) (e : TypeId) (s : ByteArray) : Gr w (Lib.bytesWorld w e s) := Go.Joins.below_bytesWorld _ w e s (Nat.le_refl _)
theorem ξcS (w : World) (s : List UInt8) (v : Int) (h : Lib.parseIntB 64 s = .ok v) (hl : s.length ≤ 1000) :
  Calls Tryz.prog 117 #[.string ⟨s.toArray⟩, .int .i64 10, .int .i64 64] w (Ret w fun r _ => r = .tuple #[.int .i64 v, .nilIface]) := by
 refine (Tryz.strconv_ParseInt_10_at64_ok ⟨s.toArray⟩ (by show s.toArray.size ≤ _; simp; omega) v (by simpa using h) w).mono ?_
 rintro e w' ⟨rfl, hw⟩
 refine ⟨_, rfl, ?_, rfl⟩
 rcases hw with rfl | ⟨t, rfl⟩
 ·exact Gr.refl _
 ·exact ξaj _ _ _
theorem ξ5Z (w : World) (br bw o n c : Nat) (q : Option Addr) (s : List UInt8) (v : Int) (bad : Bool) (hr : ξ0 w br #[.slice (some ⟨bw, o, none⟩) n c, .bool bad]) (hs : w.cell? ⟨bw, o, none⟩ = some (.string ⟨s.toArray⟩)) (hp : Lib.parseIntB 64 s = .ok v) (hl : s.length ≤ 1000) (hn : 1 ≤ n) (hnc : n ≤ c) (hcb : c ≤ 1000)
  (hq : (c = 1 ∧ q = some ⟨bw, o, none⟩) ∨ (c ≠ 1 ∧ q = some ⟨bw, o + 1, none⟩)) :
  Calls Tryz.prog 65 #[.pointer (some ⟨br, 0, none⟩)] w (fun e w' => e = .returned (.int .i64 v) ∧ w.grownBy w' (some br) ∧ ξ0 w' br #[.slice q (n - 1) (c - 1), .bool bad]) := by
 have HR := ξ hr
 have HP := ξ hp
 have HL := ξ hl
 have HQ := ξ hq
 have r0 : w.cell? ⟨br, 0, none⟩ = some (.slice (some ⟨bw, o, none⟩) n c) := hr.at 0 rfl
 have hn0 : ((n : Int) == 0) = false := by simp; omega
 have hlt : 0 < n := by omega
 clear hr hp hl hq
 go_enter Tryz.func65, Tryz.ntmps65
 go_wp2_with fail
 clear r0
 refine (ξcS w s v HP.out HL.out).mono ?_
 rintro _ w1 ⟨_, rfl, g1, rfl⟩
 have HR1 := ξ (HR.out.grow g1)
 have G1 := ξ g1
 have r0 : w1.cell? ⟨br, 0, none⟩ = some (.slice (some ⟨bw, o, none⟩) n c) := HR1.out.at 0 rfl
 have r1 : w1.cell? ⟨br, 1, none⟩ = some (.bool bad) := HR1.out.at 1 rfl
 have f1 := ξ0.f HR1.out 1
 obtain ⟨W2, hW2⟩ : ∃ z, w1.setCell ⟨br, 1, none⟩ (.bool bad) = z := ⟨_, rfl⟩
 have HR2 := ξ (show ξ0 W2 br #[.slice (some ⟨bw, o, none⟩) n c, .bool bad] from by
  have := HR1.out.set 1 (.bool bad)
  rw [hW2] at this
  simpa using this)
 have s0 : W2.cell? ⟨br, 0, none⟩ = some (.slice (some ⟨bw, o, none⟩) n c) := HR2.out.at 0 rfl
 have f0 := ξ0.f HR2.out 0
 have h1n : (1 : Int) ≤ (n : Int) := by omega
 clear g1
 rcases HQ.out with ⟨hc, hq⟩ | ⟨hc, hq⟩
 ·subst hc
  obtain rfl : n = 1 := by omega
  have HX := ξ (HR2.out.set 0 (.slice q 0 0))
  have HGG := ξ ((ξq br G1.out).trans ((hW2 ▸ ξg.set br w1 1 (.bool bad) : w1.grownBy W2 (some br)).trans (ξg.set br W2 0 (.slice q 0 0))))
  subst hq
  cases bad
  ·go_wp2_with fail
   go_ret
   exact ⟨rfl, by simpa using HGG.out, by simpa using HX.out⟩
  ·go_wp2_with fail
   go_ret
   exact ⟨rfl, by simpa using HGG.out, by simpa using HX.out⟩
 ·have hc' : (c == 1) = false := by simpa using hc
  have HX := ξ (HR2.out.set 0 (.slice q (n - 1) (c - 1)))
  have HGG := ξ ((ξq br G1.out).trans ((hW2 ▸ ξg.set br w1 1 (.bool bad) : w1.grownBy W2 (some br)).trans (ξg.set br W2 0 (.slice q (n - 1) (c - 1)))))
  subst hq
  cases bad
  ·go_wp2_with fail
   go_ret
   exact ⟨rfl, by simpa using HGG.out, by simpa using HX.out⟩
  ·go_wp2_with fail
   go_ret
   exact ⟨rfl, by simpa using HGG.out, by simpa using HX.out⟩
def OneW (s : List UInt8) (z : Int) : Prop := s = [49] ∧ z = 1 ∨ s = [45, 49] ∧ z = -1
theorem ξch (w : World) (s : List UInt8) (z : Int) (h : OneW s z) (m : Int) (hm : w.cell? ⟨2, 0, none⟩ = some (.int .i64 m)) :
  Calls Tryz.prog 116 #[.string ⟨s.toArray⟩] w (Ret w fun r w' => ∃ u : RatM, r = .tuple #[u.v, .int .i64 0] ∧ RatC w' u.v (z : Rat)) := by
 rcases h with ⟨rfl, rfl⟩ | ⟨rfl, rfl⟩
 ·refine (ξ5F w [49] [49] [] false false [49] (.inr ⟨rfl, rfl, rfl, by decide⟩) (.inr ⟨rfl, rfl, by decide⟩) (by decide) m hm).mono ?_
  rintro _ w1 ⟨r, rfl, g, hr⟩
  have e1 : okQ (valI false [49]) (okI false [49]) [] false = true := by decide +kernel
  unfold ξ0J at hr
  rw [if_pos e1] at hr
  obtain ⟨v, rfl, hv⟩ := hr
  have e2 : valQ (valI false [49]) [] false = ((1 : Int) : Rat) := by decide +kernel
  rw [e2] at hv
  obtain ⟨u, rfl, hu⟩ := ξ3Z hv
  exact ⟨_, rfl, g, u, rfl, hu⟩
 ·refine (ξ5F w [45, 49] [45, 49] [] false true [49] (.inr ⟨rfl, rfl, rfl, by decide⟩) (.inl ⟨rfl, rfl⟩) (by decide) m hm).mono ?_
  rintro _ w1 ⟨r, rfl, g, hr⟩
  have e1 : okQ (valI true [49]) (okI true [49]) [] false = true := by decide +kernel
  unfold ξ0J at hr
  rw [if_pos e1] at hr
  obtain ⟨v, rfl, hv⟩ := hr
  have e2 : valQ (valI true [49]) [] false = ((-1 : Int) : Rat) := by decide +kernel
  rw [e2] at hv
  obtain ⟨u, rfl, hu⟩ := ξ3Z hv
  exact ⟨_, rfl, g, u, rfl, hu⟩
def OffA (p : Option Addr) (r : Nat) : Prop := ∀ a, p = some a → a.block ≠ r
theorem SlL.updA {α : Type} {enc : α → List Value} {sz : Nat} {w w' : World} {p : Option Addr} {n c r : Nat} {l : List α} (h : SlL w sz enc (.slice p n c) l) (hu : Upd r w w') (ho : OffA p r) : SlL w' sz enc (.slice p n c) l := by
 obtain ⟨h0, p', c', hv, h1, h2, h3⟩ := h
 cases hv
 refine ⟨h0, p, c, rfl, h1, h2, ?_⟩
 rcases h3 with h3 | ⟨b, o, hp, hc⟩
 ·exact .inl h3
 ·refine .inr ⟨b, o, hp, fun j u hj => ?_⟩
  have := hc j u hj
  unfold World.cell? at this ⊢
  rw [show (⟨b, o + j, none⟩ : Addr).block = b from rfl] at this ⊢
  rw [hu b (ho _ hp)]
  exact this
theorem ξ8S : ∀ x, ∀ u ∈ encRat x, u.oneCell' = true := fun x u hu => by
 simp [encRat] at hu
 rcases hu with rfl | rfl | rfl <;> rfl
theorem ξ3P {w : World} {b : Nat} {a : Option Addr} {n c : Nat} {t : Bool} (h : ξ0 w b #[.slice a n c, .bool t]) : ξ0f w b := by
 obtain ⟨ty, h⟩ := h
 refine ⟨_, ty, h, fun i k z hi => ?_⟩
 match i with
 | 0 => simp at hi
 | 1 => simp at hi
 | i + 2 => simp at hi
def ξb5 (w W : World) (br : Nat) (wv : Value) (z : Int) (k : Nat) (v : Value) : Prop :=
 w.grownBy W (some br) ∧ ξ0 W br #[wv, .bool false] ∧ ((k = 0 ∧ v = .slice none 0 0 ∧ Gr w W) ∨ (k = 1 ∧ ∃ p c u, v = .slice p 1 c ∧ (∀ a, p = some a → w.heap.size ≤ a.block) ∧ SlL W 3 encRat (.slice p 1 c) [u] ∧ RatC W u.v (z : Rat)))
theorem ξ7d (w : World) (br bw o c : Nat) (s : List UInt8) (z : Int) (hz : OneW s z) (m : Int) (hm : w.cell? ⟨2, 0, none⟩ = some (.int .i64 m)) (hr : ξ0 w br #[.slice (some ⟨bw, o, none⟩) 1 c, .bool false]) (hs : w.cell? ⟨bw, o, none⟩ = some (.string ⟨s.toArray⟩)) :
  Calls Tryz.prog 63 #[.pointer (some ⟨br, 0, none⟩)] w (fun e w' => ∃ p c' u, e = .returned (.slice p 1 c') ∧ (∀ a, p = some a → w.heap.size ≤ a.block) ∧ w.grownBy w' (some br) ∧ ξ0 w' br #[.slice none 0 0, .bool false] ∧ SlL w' 3 encRat (.slice p 1 c') [u] ∧ RatC w' u.v (z : Rat)) := by
 have HR := ξ hr
 have HM := ξ hm
 have HZ := ξ hz
 have HS := ξ hs
 have r0 : w.cell? ⟨br, 0, none⟩ = some (.slice (some ⟨bw, o, none⟩) 1 c) := hr.at 0 rfl
 clear hr hm hz hs
 go_enter Tryz.func63, Tryz.ntmps63
 go_wp2_with fail
 clear r0
 go_loopw [3, 13] (fun v i w9 => ∃ (k : Nat) (W1 : World), W1 = w9 ∧ i = .int .i64 (k : Int) ∧ k ≤ 1 ∧ ξb5 w W1 br (.slice (some ⟨bw, o, none⟩) 1 c) z k v) (fun _ i _ => 1 - (RowKit.intOf i).toNat)
 case atStart => exact ⟨0, _, rfl, rfl, by omega, ξ5c w br, HR.out, .inl ⟨rfl, rfl, Gr.refl w⟩⟩
 case round =>
  obtain ⟨k, W1, rfl, rfl, hk, hg, hc, h⟩ := hrel
  rcases h with ⟨rfl, rfl, h0⟩ | ⟨rfl, p, c', u, rfl, hoff, h1, h2⟩
  ·have hs := h0.cell HS.out
   have HG0 := ξ h0
   clear hg hc h0
   go_wp2_with fail
   clear hs
   refine (ξch W1 s z HZ.out m (HG0.out.cell HM.out)).mono ?_
   rintro _ w2 ⟨r2, rfl, g2, u, rfl, hu⟩
   have HU := ξ hu
   have G2 := ξ (HG0.out.trans g2)
   clear g2 hu
   have C3 := ξ0.new w2 #[.bool u.n, .slice u.p u.k u.c, .slice u.q u.m u.e] 68
   obtain ⟨W3, hW3⟩ : ∃ z, w2.alloc (.cells #[.bool u.n, .slice u.p u.k u.c, .slice u.q u.m u.e] 68) = z := ⟨_, rfl⟩
   rw [hW3] at C3
   have HR3 := HR.out.grow (G2.out.trans C3.1)
   have r1 : W3.cell? ⟨br, 1, none⟩ = some (.bool false) := HR3.at 1 rfl
   have f1 := ξ0.f HR3 1
   obtain ⟨W4, hW4⟩ : ∃ z, W3.setCell ⟨br, 1, none⟩ (.bool false) = z := ⟨_, rfl⟩
   have hu4 : Upd br W3 W4 := by rw [← hW4]; exact ξx W3 br 1 _
   have HR4 := ξ (show ξ0 W4 br #[.slice (some ⟨bw, o, none⟩) 1 c, .bool false] from by
    have := HR3.set 1 (.bool false)
    rw [hW4] at this
    simpa using this)
   have hbr : br < w2.heap.size := (HR.out.grow G2.out).lt
   have C4 := ξ (C3.2.upd hu4 (by omega))
   have HU4 := ξ ((HU.out.grow C3.1).upd (ξ3P HR3) hu4)
   have HG4 := ξ (show _ from ξf (ξq br (G2.out.trans C3.1)) (hW4 ▸ ξg.set br W3 1 (.bool false) : W3.grownBy W4 (some br)))
   have d0 := C4.out.at 0 rfl
   have d1 := C4.out.at 1 rfl
   have d2 := C4.out.at 2 rfl
   clear HR3 hu4 C3 hbr
   unfold RatM.v
   go_wp2_with (at_builtin; refine Hold.hold ?_)
   clear d0 d1 d2 r1 f1 hW3 hW4
   have BS := SlL.new (enc := encRat) (sz := 3) W4 68 ξR [u] #[.bool u.n, .slice u.p u.k u.c, .slice u.q u.m u.e] 1 rfl rfl (by decide)
   have HR5 := ξ (HR4.out.grow BS.1)
   have HU5 := ξ (HU4.out.grow BS.1)
   have HG5 := ξ (ξf HG4.out (ξq br BS.1))
   have HBS := ξ BS.2
   clear BS
   generalize W4.heap.size = bs at HBS ⊢
   generalize W4.alloc _ = W5 at HR5 HU5 HG5 HBS ⊢
   refine Hold.go ?_
   refine wpList_plain rfl (fun K hK => ?_)
   refine ξ05 _ _ 33 68 _ 56 rfl Tryz.underlying33 ξ6A rfl (by decide) ξR ξ8S W5.heap.size (.slice none 0 0) _ [] [u] rfl (OwnL.nil W5 _ _) rfl HBS.out (by simp) (by simp) (Nat.le_refl _) (by simp) ?_
   intro v6 W6 ho6 g6 _
   have g6 := OwnL.gr (OwnL.nil (enc := encRat) (sz := 3) W5 W5.heap.size 68) (Gr.refl W5) g6
   obtain ⟨p6, c6, hv6, -, -⟩ := ho6.read.parts
   have HF := ξ (show ξb5 w W6 br (.slice (some ⟨bw, o, none⟩) 1 c) z 1 (.slice p6 1 c6) from ⟨ξf HG5.out (ξq br g6), HR5.out.grow g6, .inr ⟨rfl, p6, c6, u, rfl, fun a ha => by
    subst ha
    have h1 := (World.ownsRow.lt ho6 a.block (by rw [hv6]; rfl)).1
    have h2 := World.grownBy.size HG5.out
    omega, by have := ho6.read; rw [hv6] at this; exact this, HU5.out.grow g6⟩⟩)
   have hv7 : v6 = .slice p6 1 c6 := hv6
   subst hv7
   clear ho6 g6 hv6
   refine hK _ _ ?_
   clear hK K
   go_wp2_with fail
   exact ⟨⟨1, _, rfl, rfl, by omega, HF.out⟩, by simp [RowKit.intOf]⟩
  ·have HG := ξ hg
   have HC := ξ hc
   have H1 := ξ h1
   have H2 := ξ h2
   have HOF := ξ hoff
   have f0 := ξ0.f hc 0
   have q0 : W1.cell? ⟨br, 0, none⟩ = some (.slice (some ⟨bw, o, none⟩) 1 c) := hc.at 0 rfl
   have hu := ξx W1 br 0 (.slice none 0 0)
   have HX := ξ (show w.grownBy (W1.setCell ⟨br, 0, none⟩ (.slice none 0 0)) (some br) ∧ ξ0 (W1.setCell ⟨br, 0, none⟩ (.slice none 0 0)) br #[.slice none 0 0, .bool false] ∧ SlL (W1.setCell ⟨br, 0, none⟩ (.slice none 0 0)) 3 encRat (.slice p 1 c') [u] ∧ RatC (W1.setCell ⟨br, 0, none⟩ (.slice none 0 0)) u.v (z : Rat) from
    ⟨ξf hg (ξg.set br W1 0 _), by simpa using hc.set 0 (.slice none 0 0), SlL.updA h1 hu (fun a ha e => by have := hoff a ha; have := HR.out.lt; omega), h2.upd (ξ3P hc) hu⟩)
   clear hg hc h1 h2 hoff hu
   go_wp2_with fail
   go_ret
   exact ⟨p, c', u, rfl, HOF.out, HX.out.1, HX.out.2.1, HX.out.2.2.1, HX.out.2.2.2⟩
end Prf
end Go.Proofs.YtcjgimlcefhhmaaGreatDoor

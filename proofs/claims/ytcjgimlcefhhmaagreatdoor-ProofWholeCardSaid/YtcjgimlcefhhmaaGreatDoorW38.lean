/- Texts: CuE. -/
import Derived.Test.YtcjgimlcefhhmaaGreatDoorW15
import Derived.Test.YtcjgimlcefhhmaaGreatDoorW37
set_option linter.unusedVariables false
set_option linter.unusedSimpArgs false
set_option maxRecDepth 100000
set_option maxHeartbeats 12800000
namespace Go.Proofs.YtcjgimlcefhhmaaGreatDoor
namespace Prf
open Go.RowKit Go.Lib
theorem ξ5K : ∀ (l : List Int) (a v : Int), IncI a (l ++ [v]) ↔ IncI a l ∧ (l.getLast?.getD a) < v
 | [], a, v => by simp [IncI]
 | x :: l, a, v => by
  have := ξ5K l x v
  rw [List.cons_append]
  unfold IncI
  rw [this, List.getLast?_cons, Option.getD_some, and_assoc]
def ξ3A (p : Prg) (c : CutS) : Prop := c.row = 0 ∧ c.vars.length = 0 ∧ c.mult.length ≤ p.rows.length
def ξ32 (p : Prg) (c : CutS) : Prop := (c.mult.length = 0 ∧ 0 ≤ c.row ∧ c.row < (p.rows.length : Int) ∧ 0 < c.vars.length) ∧ IncI (-1) c.vars ∧ ∀ z ∈ c.vars, ξ0n p z
theorem ξcE {p : Prg} {c : CutS} (h : c.kind = 0) : ξ0X p c ↔ ξ3A p c := by
 unfold ξ0X ξ3A
 simp only [List.length_eq_zero_iff]
 constructor
 ·rintro (⟨_, a, b, d⟩ | ⟨h1, _⟩)
  ·exact ⟨a, b, d⟩
  ·omega
 ·rintro ⟨a, b, d⟩; exact .inl ⟨h, a, b, d⟩
theorem ξcr {p : Prg} {c : CutS} (h : c.kind = 1) : ξ0X p c ↔ ξ32 p c := by
 unfold ξ0X ξ32
 simp only [List.length_eq_zero_iff, List.length_pos_iff]
 constructor
 ·rintro (⟨h1, _⟩ | ⟨_, a, b, d, e, f, g⟩)
  ·omega
  ·exact ⟨⟨a, b, d, e⟩, f, g⟩
 ·rintro ⟨⟨a, b, d, e⟩, f, g⟩; exact .inr ⟨h, a, b, d, e, f, g⟩
theorem ξcd {p : Prg} {c : CutS} (h : c.kind ≠ 0) (h1 : c.kind ≠ 1) : ¬ ξ0X p c := by
 rintro (⟨a, _⟩ | ⟨a, _⟩)
 ·exact h a
 ·exact h1 a
theorem ξbD (w : World) (bc bp cm cv vc vd : Nat) (pm pv va vb : Option Addr) (p : Prg) (c : CutS) (hc : ξ0 w bc #[.int .i64 c.kind, .slice pm c.mult.length cm, .int .i64 c.row, .slice pv c.vars.length cv]) (hb : ξ0 w bp #[.slice va p.vars.length vc, .slice vb p.rows.length vd]) :
  Calls Tryz.prog 257 #[.pointer (some ⟨bc, 0, none⟩), .pointer (some ⟨bp, 0, none⟩)] w (Ret w fun r _ => ξ1 (ξ3A p c) r) := by
 have y1 := hb.at 1 rfl
 obtain ⟨rw', hrw⟩ : ∃ z, c.row = z := ⟨_, rfl⟩
 have x2 : w.cell? ⟨bc, 2, none⟩ = some (.int .i64 rw') := by rw [← hrw]; exact hc.at 2 rfl
 have HRW := ξ hrw
 obtain ⟨nv, hnv⟩ : ∃ z, c.vars.length = z := ⟨_, rfl⟩
 have HNV := ξ hnv
 obtain ⟨nm, hnm⟩ : ∃ z, c.mult.length = z := ⟨_, rfl⟩
 have HNM := ξ hnm
 have x3 : w.cell? ⟨bc, 3, none⟩ = some (.slice pv nv cv) := by rw [← hnv]; exact hc.at 3 rfl
 have x1 : w.cell? ⟨bc, 1, none⟩ = some (.slice pm nm cm) := by rw [← hnm]; exact hc.at 1 rfl
 clear hc hb hrw hnv hnm
 by_cases h0 : rw' = 0
 ·subst h0
  by_cases h1 : nv = 0
  ·subst h1
   by_cases h2 : (nm : Int) ≤ (p.rows.length : Int)
   ·have H := ξ (show ξ3A p c from ⟨HRW.out, HNV.out, by rw [HNM.out]; omega⟩)
    go_enter Tryz.func257, Tryz.ntmps257
    go_wp2_with fail
    go_ret
    exact ⟨_, rfl, Gr.refl _, ξ1.yes H.out⟩
   ·have H := ξ (show ¬ ξ3A p c from fun h => by (have := h.2.2; rw [HNM.out] at this; omega))
    go_enter Tryz.func257, Tryz.ntmps257
    go_wp2_with fail
    go_ret
    exact ⟨_, rfl, Gr.refl _, ξ1.no H.out⟩
  ·have e1 : ((nv : Int) == 0) = false := by simpa using h1
   have H := ξ (show ¬ ξ3A p c from fun h => by (have := h.2.1; rw [HNV.out] at this; omega))
   go_enter Tryz.func257, Tryz.ntmps257
   go_wp2_with fail
   go_ret
   exact ⟨_, rfl, Gr.refl _, ξ1.no H.out⟩
 ·have e1 : (rw' == 0) = false := by simpa using h0
  have H := ξ (show ¬ ξ3A p c from fun h => h0 (by rw [← HRW.out]; exact h.1))
  go_enter Tryz.func257, Tryz.ntmps257
  go_wp2_with fail
  go_ret
  exact ⟨_, rfl, Gr.refl _, ξ1.no H.out⟩
def BIs (b : Bool) (P : Prop) : Prop := b = true ↔ P
def FmG (p : Prg) (c : CutS) : Prop := c.mult.length = 0 ∧ 0 ≤ c.row ∧ c.row < (p.rows.length : Int) ∧ 0 < c.vars.length
def FmK (p : Prg) (c : CutS) (k : Nat) : Prop := FmG p c ∧ IncI (-1) (c.vars.take k) ∧ ∀ z ∈ c.vars.take k, ξ0n p z
def FmL (c : CutS) (k : Nat) : Int := (c.vars.take k).getLast?.getD (-1)
def FmN (p : Prg) (c : CutS) (k : Nat) (z : Int) : Prop := FmL c k < z ∧ ξ0n p z
def ξw (p : Prg) (c : CutS) (k : Nat) (vl vg : Value) : Prop := ∃ g : Bool, vl = .int .i64 (FmL c k) ∧ vg = .bool g ∧ BIs g (FmK p c k)
theorem ξw.start {p : Prg} {c : CutS} {g : Bool} (h : BIs g (FmG p c)) : ξw p c 0 (.int .i64 (-1)) (.bool g) :=
 ⟨g, by simp [FmL], rfl, Iff.trans h ⟨fun h => ⟨h, by simp [IncI], by simp⟩, fun h => h.1⟩⟩
theorem ξw.next {p : Prg} {c : CutS} {k : Nat} {g : Bool} {z : Int} (hz : c.vars[k]? = some z) (h : BIs g (FmK p c k)) (g' : Bool) (h' : g' = true ↔ g = true ∧ FmN p c k z) : ξw p c (k + 1) (.int .i64 z) (.bool g') := by
 have ht : c.vars.take (k + 1) = c.vars.take k ++ [z] := by rw [List.take_add_one, hz]; rfl
 refine ⟨g', by unfold FmL; rw [ht]; simp, rfl, ?_⟩
 unfold BIs at h ⊢
 unfold FmK at h ⊢
 unfold FmN FmL at h'
 rw [h', h, ht, ξ5K]
 simp only [List.mem_append, List.mem_singleton]
 constructor
 ·rintro ⟨⟨a, b, d⟩, e, f⟩
  exact ⟨a, ⟨b, e⟩, fun y hy => hy.elim (d y) fun e => by rw [e]; exact f⟩
 ·rintro ⟨a, ⟨b, e⟩, d⟩
  exact ⟨⟨a, b, fun y hy => d y (.inl hy)⟩, e, d z (.inr rfl)⟩
theorem ξw.nextF {p : Prg} {c : CutS} {k : Nat} {z : Int} (hz : c.vars[k]? = some z) (h : BIs false (FmK p c k)) : ξw p c (k + 1) (.int .i64 z) (.bool false) := ξw.next hz h false (by simp)
theorem ξw.nextT {p : Prg} {c : CutS} {k : Nat} {z : Int} (hz : c.vars[k]? = some z) (h : BIs true (FmK p c k)) (h2 : FmN p c k z) : ξw p c (k + 1) (.int .i64 z) (.bool true) := ξw.next hz h true (by simp [h2])
theorem ξw.nextN {p : Prg} {c : CutS} {k : Nat} {z : Int} (hz : c.vars[k]? = some z) (h : BIs true (FmK p c k)) (h2 : ¬ FmN p c k z) : ξw p c (k + 1) (.int .i64 z) (.bool false) := ξw.next hz h false (by simp [h2])
theorem ξbT (w : World) (bc bp cm cv vc vd : Nat) (pm pv va vb : Option Addr) (p : Prg) (c : CutS) (hc : ξ0 w bc #[.int .i64 c.kind, .slice pm c.mult.length cm, .int .i64 c.row, .slice pv c.vars.length cv]) (hb : ξ0 w bp #[.slice va p.vars.length vc, .slice vb p.rows.length vd])
  (hp : ξC w (.agg #[.slice va p.vars.length vc, .slice vb p.rows.length vd]) p) (hv : ξ1d w (.slice pv c.vars.length cv) c.vars) (hcv : c.vars.length ≤ 1000) :
  Calls Tryz.prog 258 #[.pointer (some ⟨bc, 0, none⟩), .pointer (some ⟨bp, 0, none⟩)] w (Ret w fun r _ => ξ1 (ξ32 p c) r) := by
 have HB := ξ hb
 have HP := ξ hp
 obtain ⟨rw', hrw⟩ : ∃ z, c.row = z := ⟨_, rfl⟩
 have HRW := ξ hrw
 obtain ⟨nv, hnv⟩ : ∃ z, c.vars.length = z := ⟨_, rfl⟩
 have HNV := ξ hnv
 obtain ⟨nm, hnm⟩ : ∃ z, c.mult.length = z := ⟨_, rfl⟩
 have HNM := ξ hnm
 have HV := ξ (show ξ1d w (.slice pv nv cv) c.vars from by rw [← hnv]; exact hv)
 have x1 : ∀ w', Gr w w' → w'.cell? ⟨bc, 1, none⟩ = some (.slice pm nm cm) := by rw [← hnm]; exact hc.c 1 rfl
 have x2 : ∀ w', Gr w w' → w'.cell? ⟨bc, 2, none⟩ = some (.int .i64 rw') := by rw [← hrw]; exact hc.c 2 rfl
 have x3 : ∀ w', Gr w w' → w'.cell? ⟨bc, 3, none⟩ = some (.slice pv nv cv) := by rw [← hnv]; exact hc.c 3 rfl
 have y1 := hb.c 1 rfl
 rw [hnv] at hcv
 clear hc hb hp hv hrw hnv hnm
 go_enter Tryz.func258, Tryz.ntmps258
 go_wp2_with fail
 have g0 : Gr w w.drew := (Gr.refl _).drew
 by_cases h0 : nm = 0
 ·subst h0
  by_cases h1 : 0 ≤ rw'
  ·by_cases h2 : rw' < (p.rows.length : Int)
   ·by_cases h3 : (0 : Int) < (nv : Int)
    ·have e2 : decide (0 < nv) = true := decide_eq_true (by omega)
     have HG := ξ (show BIs true (FmG p c) from by unfold BIs FmG; exact (by rw [HNM.out, HRW.out, HNV.out]; simp; omega))
     refine ξ3 [(0, true), (1, true), (2, true), (3, true), (4, true), (5, true), (6, true), (7, true), (8, true), (9, true), (10, true), (11, true), (12, true), (13, true), (14, true), (15, true), (16, true), (17, true), (18, true), (19, true), (20, true), (21, true), (22, true), (23, true), (24, true)] (by kernel_rfl) (by kernel_rfl) rfl (by kernel_rfl) (fun _ _ d _ _ h => by cases d <;> exact h) ?_
     generalize w.drew = W at g0 ⊢
     repeat (first | (refine ξ0g rfl rfl ?_; go_simp) | (refine ξ2 (v := ?_) g0 rfl rfl (fun w' hg => ?_) (fun K hK => ?_); rotate_left; (go_simp; rfl); go_simp; refine hK _ _ ?_; clear hK K))
     refine ξ9 ?_
     have G := ξ g0
     have y3 := x3 W g0
     clear x1 x2 x3 y1 g0
     go_wp2_with fail
     clear y3
     go_loopw [3, 4, 33] (fun vl vg i w9 => ∃ k : Nat, i = .int .i64 (k : Int) ∧ k ≤ nv ∧ ξw p c k vl vg ∧ Gr w w9) (fun _ _ i _ => nv - (RowKit.intOf i).toNat)
     case atStart => exact ⟨0, rfl, Nat.zero_le _, ξw.start HG.out, G.out⟩
     case round =>
      clear G
      obtain ⟨k, rfl, hk, ⟨g, rfl, rfl, hg⟩, hgr⟩ := hrel
      have HGG := ξ hg
      have G := ξ hgr
      clear hg hgr
      by_cases hlt : k < nv
      ·have hlt' : (k : Int) < (nv : Int) := by omega
       have hk1 : IntKind.i64.wrap ((k : Int) + 1) = (k : Int) + 1 := by rw [IntKind.wrap_i64]; omega
       obtain ⟨b, o, z, rfl, hz, hcz⟩ := ξ1f HV.out HNV.out (show k < nv from hlt)
       have HZ := ξ hz
       have z0 := hcz wr G.out
       obtain ⟨lv, hlv⟩ : ∃ z, FmL c k = z := ⟨_, rfl⟩
       have HLV := ξ hlv
       rw [hlv]
       clear hz hcz hlv
       cases g
       ·go_wp2_with fail
        exact ⟨⟨k + 1, by go_num, by omega, ξw.nextF HZ.out HGG.out, G.out⟩, by simp [RowKit.intOf]; omega⟩
       ·by_cases h1 : lv < z
        ·have q0 := (HB.out.grow G.out).at 0 rfl
         have q1 := (HB.out.grow G.out).at 1 rfl
         have HL1 := ξ h1
         go_wp2_with fail
         clear q0 q1
         refine (ξ2N wr _ p z (HP.out.grow G.out)).mono ?_
         rintro _ w2 ⟨r2, rfl, g2, h2⟩
         have G := ξ (G.out.trans g2)
         clear g2
         rcases h2.cases with ⟨rfl, k2⟩ | ⟨rfl, k2⟩
         ·have HN := ξ (show FmN p c k z from ⟨by rw [HLV.out]; exact HL1.out, k2⟩)
          clear h2 k2
          go_wp2_with fail
          exact ⟨⟨k + 1, by go_num, by omega, ξw.nextT HZ.out HGG.out HN.out, G.out⟩, by simp [RowKit.intOf]; omega⟩
         ·have HN := ξ (show ¬ FmN p c k z from fun h => k2 h.2)
          clear h2 k2
          go_wp2_with fail
          exact ⟨⟨k + 1, by go_num, by omega, ξw.nextN HZ.out HGG.out HN.out, G.out⟩, by simp [RowKit.intOf]; omega⟩
        ·have h1' : z ≤ lv := by omega
         have HN := ξ (show ¬ FmN p c k z from fun h => h1 (by rw [← HLV.out]; exact h.1))
         clear h1
         go_wp2_with fail
         exact ⟨⟨k + 1, by go_num, by omega, ξw.nextN HZ.out HGG.out HN.out, G.out⟩, by simp [RowKit.intOf]; omega⟩
      ·obtain rfl : k = nv := by omega
       go_wp2_with fail
       go_ret
       refine ⟨_, rfl, G.out, g, rfl, ?_⟩
       have h := HGG.out
       unfold BIs FmK FmG at h
       unfold ξ32
       rw [h, ← HNV.out, List.take_length]
    ·have e2 : decide (0 < nv) = false := decide_eq_false (by omega)
     have HX := ξ h3
     clear h3
     have HG := ξ (show BIs false (FmG p c) from by unfold BIs FmG; exact (by have hx := HX.out; rw [HNM.out, HRW.out, HNV.out]; simp; omega))
     refine ξ3 [(0, true), (1, true), (2, true), (3, true), (4, true), (5, true), (6, true), (7, true), (8, true), (9, true), (10, true), (11, true), (12, true), (13, true), (14, true), (15, true), (16, true), (17, true), (18, true), (19, true), (20, true), (21, true), (22, true), (23, true), (24, true)] (by kernel_rfl) (by kernel_rfl) rfl (by kernel_rfl) (fun _ _ d _ _ h => by cases d <;> exact h) ?_
     generalize w.drew = W at g0 ⊢
     repeat (first | (refine ξ0g rfl rfl ?_; go_simp) | (refine ξ2 (v := ?_) g0 rfl rfl (fun w' hg => ?_) (fun K hK => ?_); rotate_left; (go_simp; rfl); go_simp; refine hK _ _ ?_; clear hK K))
     refine ξ9 ?_
     have G := ξ g0
     have y3 := x3 W g0
     clear x1 x2 x3 y1 g0
     go_wp2_with fail
     clear y3
     go_loopw [3, 4, 33] (fun vl vg i w9 => ∃ k : Nat, i = .int .i64 (k : Int) ∧ k ≤ nv ∧ ξw p c k vl vg ∧ Gr w w9) (fun _ _ i _ => nv - (RowKit.intOf i).toNat)
     case atStart => exact ⟨0, rfl, Nat.zero_le _, ξw.start HG.out, G.out⟩
     case round =>
      clear G
      obtain ⟨k, rfl, hk, ⟨g, rfl, rfl, hg⟩, hgr⟩ := hrel
      have HGG := ξ hg
      have G := ξ hgr
      clear hg hgr
      by_cases hlt : k < nv
      ·have hlt' : (k : Int) < (nv : Int) := by omega
       have hk1 : IntKind.i64.wrap ((k : Int) + 1) = (k : Int) + 1 := by rw [IntKind.wrap_i64]; omega
       obtain ⟨b, o, z, rfl, hz, hcz⟩ := ξ1f HV.out HNV.out (show k < nv from hlt)
       have HZ := ξ hz
       have z0 := hcz wr G.out
       obtain ⟨lv, hlv⟩ : ∃ z, FmL c k = z := ⟨_, rfl⟩
       have HLV := ξ hlv
       rw [hlv]
       clear hz hcz hlv
       cases g
       ·go_wp2_with fail
        exact ⟨⟨k + 1, by go_num, by omega, ξw.nextF HZ.out HGG.out, G.out⟩, by simp [RowKit.intOf]; omega⟩
       ·by_cases h1 : lv < z
        ·have q0 := (HB.out.grow G.out).at 0 rfl
         have q1 := (HB.out.grow G.out).at 1 rfl
         have HL1 := ξ h1
         go_wp2_with fail
         clear q0 q1
         refine (ξ2N wr _ p z (HP.out.grow G.out)).mono ?_
         rintro _ w2 ⟨r2, rfl, g2, h2⟩
         have G := ξ (G.out.trans g2)
         clear g2
         rcases h2.cases with ⟨rfl, k2⟩ | ⟨rfl, k2⟩
         ·have HN := ξ (show FmN p c k z from ⟨by rw [HLV.out]; exact HL1.out, k2⟩)
          clear h2 k2
          go_wp2_with fail
          exact ⟨⟨k + 1, by go_num, by omega, ξw.nextT HZ.out HGG.out HN.out, G.out⟩, by simp [RowKit.intOf]; omega⟩
         ·have HN := ξ (show ¬ FmN p c k z from fun h => k2 h.2)
          clear h2 k2
          go_wp2_with fail
          exact ⟨⟨k + 1, by go_num, by omega, ξw.nextN HZ.out HGG.out HN.out, G.out⟩, by simp [RowKit.intOf]; omega⟩
        ·have h1' : z ≤ lv := by omega
         have HN := ξ (show ¬ FmN p c k z from fun h => h1 (by rw [← HLV.out]; exact h.1))
         clear h1
         go_wp2_with fail
         exact ⟨⟨k + 1, by go_num, by omega, ξw.nextN HZ.out HGG.out HN.out, G.out⟩, by simp [RowKit.intOf]; omega⟩
      ·obtain rfl : k = nv := by omega
       go_wp2_with fail
       go_ret
       refine ⟨_, rfl, G.out, g, rfl, ?_⟩
       have h := HGG.out
       unfold BIs FmK FmG at h
       unfold ξ32
       rw [h, ← HNV.out, List.take_length]
   ·have e2 : decide (rw' < (p.rows.length : Int)) = false := decide_eq_false h2
    have HX := ξ h2
    have HG := ξ (show BIs false (FmG p c) from by unfold BIs FmG; exact (by have hx := HX.out; rw [HNM.out, HRW.out, HNV.out]; simp; omega))
    refine ξ3 [(0, true), (1, true), (2, true), (3, true), (4, true), (5, true), (6, true), (7, true), (8, true), (9, true), (10, true), (11, true), (12, true), (13, true), (14, true), (15, true), (16, true), (17, true), (18, true), (19, true), (20, true), (21, true), (22, true), (23, true), (24, true)] (by kernel_rfl) (by kernel_rfl) rfl (by kernel_rfl) (fun _ _ d _ _ h => by cases d <;> exact h) ?_
    generalize w.drew = W at g0 ⊢
    repeat (first | (refine ξ0g rfl rfl ?_; go_simp) | (refine ξ2 (v := ?_) g0 rfl rfl (fun w' hg => ?_) (fun K hK => ?_); rotate_left; (go_simp; rfl); go_simp; refine hK _ _ ?_; clear hK K))
    refine ξ9 ?_
    have G := ξ g0
    have y3 := x3 W g0
    clear x1 x2 x3 y1 g0
    go_wp2_with fail
    clear y3
    go_loopw [3, 4, 33] (fun vl vg i w9 => ∃ k : Nat, i = .int .i64 (k : Int) ∧ k ≤ nv ∧ ξw p c k vl vg ∧ Gr w w9) (fun _ _ i _ => nv - (RowKit.intOf i).toNat)
    case atStart => exact ⟨0, rfl, Nat.zero_le _, ξw.start HG.out, G.out⟩
    case round =>
     clear G
     obtain ⟨k, rfl, hk, ⟨g, rfl, rfl, hg⟩, hgr⟩ := hrel
     have HGG := ξ hg
     have G := ξ hgr
     clear hg hgr
     by_cases hlt : k < nv
     ·have hlt' : (k : Int) < (nv : Int) := by omega
      have hk1 : IntKind.i64.wrap ((k : Int) + 1) = (k : Int) + 1 := by rw [IntKind.wrap_i64]; omega
      obtain ⟨b, o, z, rfl, hz, hcz⟩ := ξ1f HV.out HNV.out (show k < nv from hlt)
      have HZ := ξ hz
      have z0 := hcz wr G.out
      obtain ⟨lv, hlv⟩ : ∃ z, FmL c k = z := ⟨_, rfl⟩
      have HLV := ξ hlv
      rw [hlv]
      clear hz hcz hlv
      cases g
      ·go_wp2_with fail
       exact ⟨⟨k + 1, by go_num, by omega, ξw.nextF HZ.out HGG.out, G.out⟩, by simp [RowKit.intOf]; omega⟩
      ·by_cases h1 : lv < z
       ·have q0 := (HB.out.grow G.out).at 0 rfl
        have q1 := (HB.out.grow G.out).at 1 rfl
        have HL1 := ξ h1
        go_wp2_with fail
        clear q0 q1
        refine (ξ2N wr _ p z (HP.out.grow G.out)).mono ?_
        rintro _ w2 ⟨r2, rfl, g2, h2⟩
        have G := ξ (G.out.trans g2)
        clear g2
        rcases h2.cases with ⟨rfl, k2⟩ | ⟨rfl, k2⟩
        ·have HN := ξ (show FmN p c k z from ⟨by rw [HLV.out]; exact HL1.out, k2⟩)
         clear h2 k2
         go_wp2_with fail
         exact ⟨⟨k + 1, by go_num, by omega, ξw.nextT HZ.out HGG.out HN.out, G.out⟩, by simp [RowKit.intOf]; omega⟩
        ·have HN := ξ (show ¬ FmN p c k z from fun h => k2 h.2)
         clear h2 k2
         go_wp2_with fail
         exact ⟨⟨k + 1, by go_num, by omega, ξw.nextN HZ.out HGG.out HN.out, G.out⟩, by simp [RowKit.intOf]; omega⟩
       ·have h1' : z ≤ lv := by omega
        have HN := ξ (show ¬ FmN p c k z from fun h => h1 (by rw [← HLV.out]; exact h.1))
        clear h1
        go_wp2_with fail
        exact ⟨⟨k + 1, by go_num, by omega, ξw.nextN HZ.out HGG.out HN.out, G.out⟩, by simp [RowKit.intOf]; omega⟩
     ·obtain rfl : k = nv := by omega
      go_wp2_with fail
      go_ret
      refine ⟨_, rfl, G.out, g, rfl, ?_⟩
      have h := HGG.out
      unfold BIs FmK FmG at h
      unfold ξ32
      rw [h, ← HNV.out, List.take_length]
  ·have e2 : decide (0 ≤ rw') = false := decide_eq_false h1
   have HX := ξ h1
   have HG := ξ (show BIs false (FmG p c) from by unfold BIs FmG; exact (by have hx := HX.out; rw [HNM.out, HRW.out, HNV.out]; simp; omega))
   refine ξ3 [(0, true), (1, true), (2, true), (3, true), (4, true), (5, true), (6, true), (7, true), (8, true), (9, true), (10, true), (11, true), (12, true), (13, true), (14, true), (15, true), (16, true), (17, true), (18, true), (19, true), (20, true), (21, true), (22, true), (23, true), (24, true)] (by kernel_rfl) (by kernel_rfl) rfl (by kernel_rfl) (fun _ _ d _ _ h => by cases d <;> exact h) ?_
   generalize w.drew = W at g0 ⊢
   repeat (first | (refine ξ0g rfl rfl ?_; go_simp) | (refine ξ2 (v := ?_) g0 rfl rfl (fun w' hg => ?_) (fun K hK => ?_); rotate_left; (go_simp; rfl); go_simp; refine hK _ _ ?_; clear hK K))
   refine ξ9 ?_
   have G := ξ g0
   have y3 := x3 W g0
   clear x1 x2 x3 y1 g0
   go_wp2_with fail
   clear y3
   go_loopw [3, 4, 33] (fun vl vg i w9 => ∃ k : Nat, i = .int .i64 (k : Int) ∧ k ≤ nv ∧ ξw p c k vl vg ∧ Gr w w9) (fun _ _ i _ => nv - (RowKit.intOf i).toNat)
   case atStart => exact ⟨0, rfl, Nat.zero_le _, ξw.start HG.out, G.out⟩
   case round =>
    clear G
    obtain ⟨k, rfl, hk, ⟨g, rfl, rfl, hg⟩, hgr⟩ := hrel
    have HGG := ξ hg
    have G := ξ hgr
    clear hg hgr
    by_cases hlt : k < nv
    ·have hlt' : (k : Int) < (nv : Int) := by omega
     have hk1 : IntKind.i64.wrap ((k : Int) + 1) = (k : Int) + 1 := by rw [IntKind.wrap_i64]; omega
     obtain ⟨b, o, z, rfl, hz, hcz⟩ := ξ1f HV.out HNV.out (show k < nv from hlt)
     have HZ := ξ hz
     have z0 := hcz wr G.out
     obtain ⟨lv, hlv⟩ : ∃ z, FmL c k = z := ⟨_, rfl⟩
     have HLV := ξ hlv
     rw [hlv]
     clear hz hcz hlv
     cases g
     ·go_wp2_with fail
      exact ⟨⟨k + 1, by go_num, by omega, ξw.nextF HZ.out HGG.out, G.out⟩, by simp [RowKit.intOf]; omega⟩
     ·by_cases h1 : lv < z
      ·have q0 := (HB.out.grow G.out).at 0 rfl
       have q1 := (HB.out.grow G.out).at 1 rfl
       have HL1 := ξ h1
       go_wp2_with fail
       clear q0 q1
       refine (ξ2N wr _ p z (HP.out.grow G.out)).mono ?_
       rintro _ w2 ⟨r2, rfl, g2, h2⟩
       have G := ξ (G.out.trans g2)
       clear g2
       rcases h2.cases with ⟨rfl, k2⟩ | ⟨rfl, k2⟩
       ·have HN := ξ (show FmN p c k z from ⟨by rw [HLV.out]; exact HL1.out, k2⟩)
        clear h2 k2
        go_wp2_with fail
        exact ⟨⟨k + 1, by go_num, by omega, ξw.nextT HZ.out HGG.out HN.out, G.out⟩, by simp [RowKit.intOf]; omega⟩
       ·have HN := ξ (show ¬ FmN p c k z from fun h => k2 h.2)
        clear h2 k2
        go_wp2_with fail
        exact ⟨⟨k + 1, by go_num, by omega, ξw.nextN HZ.out HGG.out HN.out, G.out⟩, by simp [RowKit.intOf]; omega⟩
      ·have h1' : z ≤ lv := by omega
       have HN := ξ (show ¬ FmN p c k z from fun h => h1 (by rw [← HLV.out]; exact h.1))
       clear h1
       go_wp2_with fail
       exact ⟨⟨k + 1, by go_num, by omega, ξw.nextN HZ.out HGG.out HN.out, G.out⟩, by simp [RowKit.intOf]; omega⟩
    ·obtain rfl : k = nv := by omega
     go_wp2_with fail
     go_ret
     refine ⟨_, rfl, G.out, g, rfl, ?_⟩
     have h := HGG.out
     unfold BIs FmK FmG at h
     unfold ξ32
     rw [h, ← HNV.out, List.take_length]
 ·have e1 : ((nm : Int) == 0) = false := by simpa using h0
  have HX := ξ h0
  clear h0
  have HG := ξ (show BIs false (FmG p c) from by unfold BIs FmG; exact (by have hx := HX.out; rw [HNM.out, HRW.out, HNV.out]; simp; omega))
  refine ξ3 [(0, true), (1, true), (2, true), (3, true), (4, true), (5, true), (6, true), (7, true), (8, true), (9, true), (10, true), (11, true), (12, true), (13, true), (14, true), (15, true), (16, true), (17, true), (18, true), (19, true), (20, true), (21, true), (22, true), (23, true), (24, true)] (by kernel_rfl) (by kernel_rfl) rfl (by kernel_rfl) (fun _ _ d _ _ h => by cases d <;> exact h) ?_
  generalize w.drew = W at g0 ⊢
  repeat (first | (refine ξ0g rfl rfl ?_; go_simp) | (refine ξ2 (v := ?_) g0 rfl rfl (fun w' hg => ?_) (fun K hK => ?_); rotate_left; (go_simp; rfl); go_simp; refine hK _ _ ?_; clear hK K))
  refine ξ9 ?_
  have G := ξ g0
  have y3 := x3 W g0
  clear x1 x2 x3 y1 g0
  go_wp2_with fail
  clear y3
  go_loopw [3, 4, 33] (fun vl vg i w9 => ∃ k : Nat, i = .int .i64 (k : Int) ∧ k ≤ nv ∧ ξw p c k vl vg ∧ Gr w w9) (fun _ _ i _ => nv - (RowKit.intOf i).toNat)
  case atStart => exact ⟨0, rfl, Nat.zero_le _, ξw.start HG.out, G.out⟩
  case round =>
   clear G
   obtain ⟨k, rfl, hk, ⟨g, rfl, rfl, hg⟩, hgr⟩ := hrel
   have HGG := ξ hg
   have G := ξ hgr
   clear hg hgr
   by_cases hlt : k < nv
   ·have hlt' : (k : Int) < (nv : Int) := by omega
    have hk1 : IntKind.i64.wrap ((k : Int) + 1) = (k : Int) + 1 := by rw [IntKind.wrap_i64]; omega
    obtain ⟨b, o, z, rfl, hz, hcz⟩ := ξ1f HV.out HNV.out (show k < nv from hlt)
    have HZ := ξ hz
    have z0 := hcz wr G.out
    obtain ⟨lv, hlv⟩ : ∃ z, FmL c k = z := ⟨_, rfl⟩
    have HLV := ξ hlv
    rw [hlv]
    clear hz hcz hlv
    cases g
    ·go_wp2_with fail
     exact ⟨⟨k + 1, by go_num, by omega, ξw.nextF HZ.out HGG.out, G.out⟩, by simp [RowKit.intOf]; omega⟩
    ·by_cases h1 : lv < z
     ·have q0 := (HB.out.grow G.out).at 0 rfl
      have q1 := (HB.out.grow G.out).at 1 rfl
      have HL1 := ξ h1
      go_wp2_with fail
      clear q0 q1
      refine (ξ2N wr _ p z (HP.out.grow G.out)).mono ?_
      rintro _ w2 ⟨r2, rfl, g2, h2⟩
      have G := ξ (G.out.trans g2)
      clear g2
      rcases h2.cases with ⟨rfl, k2⟩ | ⟨rfl, k2⟩
      ·have HN := ξ (show FmN p c k z from ⟨by rw [HLV.out]; exact HL1.out, k2⟩)
       clear h2 k2
       go_wp2_with fail
       exact ⟨⟨k + 1, by go_num, by omega, ξw.nextT HZ.out HGG.out HN.out, G.out⟩, by simp [RowKit.intOf]; omega⟩
      ·have HN := ξ (show ¬ FmN p c k z from fun h => k2 h.2)
       clear h2 k2
       go_wp2_with fail
       exact ⟨⟨k + 1, by go_num, by omega, ξw.nextN HZ.out HGG.out HN.out, G.out⟩, by simp [RowKit.intOf]; omega⟩
     ·have h1' : z ≤ lv := by omega
      have HN := ξ (show ¬ FmN p c k z from fun h => h1 (by rw [← HLV.out]; exact h.1))
      clear h1
      go_wp2_with fail
      exact ⟨⟨k + 1, by go_num, by omega, ξw.nextN HZ.out HGG.out HN.out, G.out⟩, by simp [RowKit.intOf]; omega⟩
   ·obtain rfl : k = nv := by omega
    go_wp2_with fail
    go_ret
    refine ⟨_, rfl, G.out, g, rfl, ?_⟩
    have h := HGG.out
    unfold BIs FmK FmG at h
    unfold ξ32
    rw [h, ← HNV.out, List.take_length]
end Prf
end Go.Proofs.YtcjgimlcefhhmaaGreatDoor

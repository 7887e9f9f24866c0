/- Texts: CuF. -/
import Derived.Test.YtcjgimlcefhhmaaGreatDoorW38
import Derived.Test.YtcjgimlcefhhmaaGreatDoorW39
set_option linter.unusedVariables false
set_option linter.unusedSimpArgs false
set_option maxRecDepth 100000
set_option maxHeartbeats 12800000
namespace Go.Proofs.YtcjgimlcefhhmaaGreatDoor
namespace Prf
open Go.RowKit Go.Lib
theorem ξ7S {w : World} (f : FuncId) (caps : Array Value) : (binOp .neq 27 (.func (.func f) #[] caps) .nilFunc).run Tryz.prog w = .ok (.bool true) w := by
 have h := Tryz.underlying27
 have h1 : (Op.equal 27 (.func (.func f) #[] caps) .nilFunc).run Tryz.prog w = .ok false w := by
  have h2 : ∀ d : Nat, (Op.equalIn (d + 1) 27 (.func (.func f) #[] caps) .nilFunc).run Tryz.prog w = .ok false w := fun d => by simp [Op.equalIn, run_underlying h]
  exact h2 9999
 simp only [binOp]
 simp [h1]
theorem ξaZ {w : World} : (binOp .neq 27 .nilFunc .nilFunc).run Tryz.prog w = .ok (.bool false) w := by
 have h := Tryz.underlying27
 have h1 : (Op.equal 27 .nilFunc .nilFunc).run Tryz.prog w = .ok true w := by
  have h2 : ∀ d : Nat, (Op.equalIn (d + 1) 27 .nilFunc .nilFunc).run Tryz.prog w = .ok true w := fun d => by simp [Op.equalIn, run_underlying h]
  exact h2 9999
 simp only [binOp]
 simp [h1]
theorem ξ1r {w : World} (f : FuncId) (caps : Array Value) : (binOp .neq 91 (.func (.func f) #[] caps) .nilFunc).run Tryz.prog w = .ok (.bool true) w := by
 have h := Tryz.underlying91
 have h1 : (Op.equal 91 (.func (.func f) #[] caps) .nilFunc).run Tryz.prog w = .ok false w := by
  have h2 : ∀ d : Nat, (Op.equalIn (d + 1) 91 (.func (.func f) #[] caps) .nilFunc).run Tryz.prog w = .ok false w := fun d => by simp [Op.equalIn, run_underlying h]
  exact h2 9999
 simp only [binOp]
 simp [h1]
theorem ξ6D {w : World} : (binOp .neq 91 .nilFunc .nilFunc).run Tryz.prog w = .ok (.bool false) w := by
 have h := Tryz.underlying91
 have h1 : (Op.equal 91 .nilFunc .nilFunc).run Tryz.prog w = .ok true w := by
  have h2 : ∀ d : Nat, (Op.equalIn (d + 1) 91 .nilFunc .nilFunc).run Tryz.prog w = .ok true w := fun d => by simp [Op.equalIn, run_underlying h]
  exact h2 9999
 simp only [binOp]
 simp [h1]
theorem ξG {n : Int} : MapKept.IsKey (.int .i64) (.int .i64 n) := by unfold MapKept.IsKey; trivial
def two01 (f g : Value) : List (Value × Value) := [(.int .i64 0, f), (.int .i64 1, g)]
theorem ξbb (f g : Value) : fkv (.int .i64) (.int .i64 0) (two01 f g) = some (some f) := rfl
theorem ξb9 (f g : Value) : fkv (.int .i64) (.int .i64 1) (two01 f g) = some (some g) := rfl
theorem ξ2v {a b : Int} (h : a ≠ b) : Instr.sameNow (.int .i64) (.int .i64 a) (.int .i64 b) = some false := by
 have : (a == b) = false := by simpa using h
 simp [Instr.sameNow, this]
theorem ξcQ (f g : Value) {n : Int} (h0 : n ≠ 0) (h1 : n ≠ 1) : fkv (.int .i64) (.int .i64 n) (two01 f g) = some none := by
 unfold two01 fkv
 rw [ξ2v h0]
 simp only []
 unfold fkv
 rw [ξ2v h1]
 rfl
theorem ξ6I (f : Value) : Instr.findNow (.int .i64) (.int .i64 1) [{ key := .int .i64 0, val := f, born := 0 }] 0 = some none := rfl
theorem ξcL (w : World) (v u : Value) (p : Prg) (c : CutS) (hp : ξC w v p) (hc : ξ1j w u c 4) (hcv : c.vars.length ≤ 1000) :
  Calls Tryz.prog 207 #[v, u] w (Ret w fun r _ => ξ1 (ξ0X p c) r) := by
 have HP := ξ hp
 obtain ⟨pm, nm, cm, pv, nv, cv, rfl, hmu, hva, rfl, rfl⟩ := hc.parts
 have HVA := ξ hva
 clear hc hmu hva
 obtain ⟨va, vc, vb, vd, rfl, hv, hr⟩ := hp
 have B0 := ξ0.new w #[.slice va p.vars.length vc, .slice vb p.rows.length vd] 25
 have B1 := ξ0.new (w.alloc (.cells #[.slice va p.vars.length vc, .slice vb p.rows.length vd] 25)) #[.int .i64 c.kind, .slice pm c.mult.length cm, .int .i64 c.row, .slice pv c.vars.length cv] 45
 simp only [World.size_alloc] at B1
 have HB := ξ (show _ ∧ ξ0 _ _ #[.slice va p.vars.length vc, .slice vb p.rows.length vd] ∧ ξ0 _ _ #[.int .i64 c.kind, .slice pm c.mult.length cm, .int .i64 c.row, .slice pv c.vars.length cv] from ⟨B0.1.trans B1.1, B0.2.grow B1.1, B1.2⟩)
 clear hv hr B0 B1
 unfold prgV at HP ⊢
 go_enter Tryz.func207, Tryz.ntmps207
 go_wp2_with fail
 generalize hbc : w.heap.size + 1 = bc at HB ⊢
 generalize hbp : w.heap.size = bp at HB ⊢
 generalize (w.alloc _).alloc _ = W at HB ⊢
 clear hbc hbp
 have hmk := run_makeMap (P := Tryz.prog) 267 W
 have hs0 := ξj (P := Tryz.prog) (w := W) (es := #[]) (c := 0) (t := 267) (key := .int .i64 0) (.func (.func 257) #[] #[.pointer (some ⟨bc, 0, none⟩), .pointer (some ⟨bp, 0, none⟩)]) Tryz.underlying267 Tryz.underlying3 ξG rfl rfl
 have hs1 := ξj (P := Tryz.prog) (w := W) (es := #[{ key := .int .i64 0, val := .func (.func 257) #[] #[.pointer (some ⟨bc, 0, none⟩), .pointer (some ⟨bp, 0, none⟩)], born := 0 }]) (c := 1) (t := 267) (key := .int .i64 1) (.func (.func 258) #[] #[.pointer (some ⟨bc, 0, none⟩), .pointer (some ⟨bp, 0, none⟩)]) Tryz.underlying267 Tryz.underlying3 ξG (ξ6I _) rfl
 simp only [List.push_toArray, List.nil_append, List.cons_append, Array.push_empty, Nat.zero_add, Nat.reduceAdd] at hs0 hs1
 have gm : Gr W (W.alloc (.map #[{ key := .int .i64 0, val := .func (.func 257) #[] #[.pointer (some ⟨bc, 0, none⟩), .pointer (some ⟨bp, 0, none⟩)], born := 0 }, { key := .int .i64 1, val := .func (.func 258) #[] #[.pointer (some ⟨bc, 0, none⟩), .pointer (some ⟨bp, 0, none⟩)], born := 1 }] 2)) := (Gr.refl _).alloc _
 have HM := ξ (show ξ0P (W.alloc (.map #[{ key := .int .i64 0, val := .func (.func 257) #[] #[.pointer (some ⟨bc, 0, none⟩), .pointer (some ⟨bp, 0, none⟩)], born := 0 }, { key := .int .i64 1, val := .func (.func 258) #[] #[.pointer (some ⟨bc, 0, none⟩), .pointer (some ⟨bp, 0, none⟩)], born := 1 }] 2)) W.heap.size (two01 (.func (.func 257) #[] #[.pointer (some ⟨bc, 0, none⟩), .pointer (some ⟨bp, 0, none⟩)]) (.func (.func 258) #[] #[.pointer (some ⟨bc, 0, none⟩), .pointer (some ⟨bp, 0, none⟩)])) from ⟨_, _, (MapKept.heap_alloc W _).1, rfl⟩)
 obtain ⟨kd, hkd⟩ : ∃ z, c.kind = z := ⟨_, rfl⟩
 have HKD := ξ hkd
 have x0 : (W.alloc (.map #[{ key := .int .i64 0, val := .func (.func 257) #[] #[.pointer (some ⟨bc, 0, none⟩), .pointer (some ⟨bp, 0, none⟩)], born := 0 }, { key := .int .i64 1, val := .func (.func 258) #[] #[.pointer (some ⟨bc, 0, none⟩), .pointer (some ⟨bp, 0, none⟩)], born := 1 }] 2)).cell? ⟨bc, 0, none⟩ = some (.int .i64 kd) := by rw [← hkd]; exact (HB.out.2.2.grow gm).at 0 rfl
 have HBC := ξ (HB.out.2.2.grow gm)
 have HBP := ξ (HB.out.2.1.grow gm)
 have GM := ξ (HB.out.1.trans gm)
 clear hkd gm
 by_cases h0 : kd = 0
 ·subst h0
  have hl := (ξz HM.out Tryz.underlying267 Tryz.underlying3 ξG (ξbb _ _)).1
  have hq := fun w => ξ7S (w := w)
  rw [hmk]
  go_wp2_with fail
  clear hl x0 hmk hs0 hs1 hq
  generalize W.alloc _ = W1 at HBC HBP GM ⊢
  refine (ξbD W1 bc bp cm cv vc vd pm pv va vb p c HBC.out HBP.out).mono ?_
  rintro _ w2 ⟨r2, rfl, g2, h2⟩
  have G := ξ (GM.out.trans g2)
  have H := ξ (show ξ1 (ξ0X p c) r2 from h2.iff (ξcE HKD.out).symm)
  clear h2 g2
  obtain ⟨t, rfl, ht⟩ := H.out
  go_wp2_with fail
  go_ret
  exact ⟨_, rfl, G.out, H.out⟩
 by_cases h1 : kd = 1
 ·subst h1
  have hl := (ξz HM.out Tryz.underlying267 Tryz.underlying3 ξG (ξb9 _ _)).1
  clear h0
  have hq := fun w => ξ7S (w := w)
  rw [hmk]
  go_wp2_with fail
  clear hl x0 hmk hs0 hs1 hq
  generalize W.alloc _ = W1 at HBC HBP GM ⊢
  refine (ξbT W1 bc bp cm cv vc vd pm pv va vb p c HBC.out HBP.out (HP.out.grow GM.out) (HVA.out.grow GM.out) hcv).mono ?_
  rintro _ w2 ⟨r2, rfl, g2, h2⟩
  have G := ξ (GM.out.trans g2)
  have H := ξ (show ξ1 (ξ0X p c) r2 from h2.iff (ξcr HKD.out).symm)
  clear h2 g2
  obtain ⟨t, rfl, ht⟩ := H.out
  go_wp2_with fail
  go_ret
  exact ⟨_, rfl, G.out, H.out⟩
 ·have hl := (ξ1P (P := Tryz.prog) (z := .nilFunc) HM.out Tryz.underlying267 Tryz.underlying3 (ξG (n := kd)) (by kernel_rfl) (ξcQ _ _ h0 h1)).1
  have H := ξ (show ¬ ξ0X p c from ξcd (by rw [HKD.out]; exact h0) (by rw [HKD.out]; exact h1))
  have hq := fun w => ξaZ (w := w)
  clear h0 h1
  rw [hmk]
  go_wp2_with fail
  go_ret
  exact ⟨_, rfl, GM.out, ξ1.no H.out⟩
end Prf
end Go.Proofs.YtcjgimlcefhhmaaGreatDoor

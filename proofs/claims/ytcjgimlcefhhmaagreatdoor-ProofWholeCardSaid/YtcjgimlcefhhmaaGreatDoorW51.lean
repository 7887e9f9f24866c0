/- Texts: PwC. -/
import Derived.Test.YtcjgimlcefhhmaaGreatDoorW12
import Derived.Test.YtcjgimlcefhhmaaGreatDoorW47
import Derived.Test.YtcjgimlcefhhmaaGreatDoorW50
set_option linter.unusedVariables false
set_option linter.unusedSimpArgs false
set_option maxRecDepth 100000
set_option maxHeartbeats 12800000
namespace Go.Proofs.YtcjgimlcefhhmaaGreatDoor
namespace Prf
open Go.RowKit Go.Lib
theorem ξ1u : (Tryz.prog.info? 47).map (fun i => (i.zero, i.size, i.bytes)) = some (some (.agg #[.int .i64 0, .slice none 0 0, .int .i64 0, .int .i64 0, .int .i64 0, .slice none 0 0, .int .i64 0, .slice none 0 0]), 8, 112) := by kernel_rfl
theorem ξ0Z : ∀ x, ∀ u ∈ encNode x, u.oneCell' = true := fun x u hu => by
 simp [encNode] at hu
 rcases hu with rfl | rfl | rfl | rfl | rfl | rfl | rfl | rfl <;> rfl
theorem ξ3r {w W : World} {u : Value} {LT : List ξb} {N : List ξ6} {y : ξb} {s : ξ6} {L : Nat} (h1 : LT.length = N.length) (h3 : ∀ (i : Nat) (t : ξb) (s : ξ6), LT[i]? = some t → N[i]? = some s → ξS w t s L) (g : Gr w W) (hy : ξS w y s L) (h : SlL W 8 encNode u (LT ++ [y])) : ξu W u (N ++ [s]) L := by
 refine ⟨_, h, by simp [h1], fun i t z ht hz => ?_⟩
 by_cases hi : i < LT.length
 ·rw [List.getElem?_append_left hi] at ht
  rw [List.getElem?_append_left (by omega)] at hz
  exact (h3 i t z ht hz).grow g
 ·rw [List.getElem?_append_right (by omega)] at ht
  rw [List.getElem?_append_right (by omega), ← h1] at hz
  have h0 : i - LT.length = 0 := by
   rcases Nat.eq_zero_or_pos (i - LT.length) with h | h
   ·exact h
   ·rw [List.getElem?_eq_none (by simp; omega)] at ht; cases ht
  rw [h0] at ht hz
  cases ht
  cases hz
  exact hy.grow g
theorem ξ5h (w : World) (n : Nat) (x : RowM) (hn : n ≤ 1000000) (hx : ξ1G w x) (hi : RowI x.s) (hl : x.name.length ≤ 9223372036854775807) :
  Calls Tryz.prog 15 #[.int .i64 (n : Int), rowV x] w (Ret w fun r _ => ξ1 (ξI n x.s) r) := by
 by_cases hs : x.name.length ≤ 1000000
 ·exact ξ6d w n x hn hx hi hs
 ·have HB := ξ (ξ0.new w #[.string ⟨x.name.toArray⟩, .int .i64 x.group, .int .i64 x.kind, .slice x.tp x.terms.length x.tc, .int .i64 x.bound] 42)
  have HNO := ξ (show ¬ ξI n x.s from fun h => by have := h.2.2.1; simp only [RowM.s] at this; omega)
  have HS := ξ hs
  clear hx hi hs hl
  unfold rowV
  go_enter Tryz.func15, Tryz.ntmps15
  go_wp2_with fail
  any_goals (go_ret; exact ⟨_, rfl, HB.out.1, ξ1.no HNO.out⟩)
  all_goals (exfalso; have := HS.out; omega)
def lawNew (cells : Array Value) : Nat → LateN.NewS
 | 2 => ⟨42, #[], fun b => .slice (some ⟨b, 0, none⟩) 0 0⟩
 | 7 => ⟨42, cells, fun b => .slice (some ⟨b, 0, none⟩) 1 1⟩
 | _ => ⟨25, #[.slice none 0 0, .slice none 0 0], fun b => .pointer (some ⟨b, 0, none⟩)⟩
theorem ξ5v (w : World) (a b q : Option Addr) (c d nv nr nn nc : Nat) (V : List VarM) (T : List RowM) (l : List ξb) (x : RowM) (kk : Int) (hv : ξ06 w (.slice a nv c) V) (hr : SlL w 5 encRow (.slice b nr d) T) (hl : SlL w 8 encNode (.slice q nn nc) l) (hnv : V.length = nv) (hnr : T.length = nr) (hnl : l.length = nn)
  (hvi : ∀ y ∈ V, VarI y) (hx : ∀ y ∈ T, RowR w y) (hlr : ∀ x ∈ l, ξ2Y w x) (hb : nv ≤ 35184372088832) (hb2 : nr ≤ 35184372088832) (hb3 : nn ≤ 35184372088832) (hnm : ∀ y ∈ T, y.name.length ≤ 9223372036854775807) (hxr : RowR w x) (hxn : x.name.length ≤ 9223372036854775807) (hkk : 0 ≤ kk ∧ kk ≤ 255) (mz : Int) (hmz : w.cell? ⟨2, 0, none⟩ = some (.int .i64 mz)) (htab : Tab w) :
  Calls Tryz.prog 6 #[.agg #[.slice a nv c, .slice b nr d], .slice q nn nc, rowV x, .int .u8 kk] w (Ret w fun r w' => r = .bool true) := by
 have HAW := ξ (fun (W : World) (g : Gr w W) => ξby W mz (g.cell hmz) (htab.grow g))
 clear hmz htab
 have B0 := ξ0.new w #[.slice a nv c, .slice b nr d] 25
 have B1 := ξ0.new (w.alloc (.cells #[.slice a nv c, .slice b nr d] 25)) #[.string ⟨x.name.toArray⟩, .int .i64 x.group, .int .i64 x.kind, .slice x.tp x.terms.length x.tc, .int .i64 x.bound] 42
 simp only [World.size_alloc] at B1
 have HB := ξ (show _ ∧ ξ0 _ _ #[.slice a nv c, .slice b nr d] ∧ ξ0 _ _ #[.string ⟨x.name.toArray⟩, .int .i64 x.group, .int .i64 x.kind, .slice x.tp x.terms.length x.tc, .int .i64 x.bound] from ⟨B0.1.trans B1.1, B0.2.grow B1.1, B1.2⟩)
 have g0 := HB.out.1
 have HSM := ξ (fun (W : World) (g : Gr w W) => ξaf W a b q c d nv nr nn nc V T l (SlL.grow hv g) (SlL.grow hr g) (SlL.grow hl g) hnv hnr hnl hvi (fun y hy => by obtain ⟨k1, k2, k3⟩ := hx y hy; exact ⟨SlL.grow k1 g, k2, k3⟩) (fun x hx => by
  have h := hlr x hx
  refine ⟨h.mult.grow g, h.cmul.grow g, ?_, h.kind, h.var, h.pos, h.ck, h.row⟩
  obtain ⟨V, e3, r3, b3, z3⟩ := h.vars
  exact ⟨V, e3, SlL.grow r3 g, b3, z3⟩) hb hb2 hb3 hnm)
 have HXR := ξ hxr
 have HXN := ξ hxn
 have HNV := ξ hnv
 have HTT := ξ (show ξ06 w (.slice a nv c) V ∧ SlL w 5 encRow (.slice b nr d) T ∧ (∀ y ∈ T, ξ1G w y) ∧ T.length ≤ 35184372088832 from ⟨hv, hr, fun y hy => (hx y hy).1, by rw [hnr]; exact hb2⟩)
 clear hv hr hl hnv hnr hnl hvi hx hlr hnm B0 B1 hxr hxn g0
 unfold rowV
 go_enter Tryz.func6, Tryz.ntmps6
 go_wp2_with fail
 generalize hbx : w.heap.size + 1 = bx at HB ⊢
 generalize hbp : w.heap.size = bp at HB ⊢
 generalize (w.alloc _).alloc _ = W at HB ⊢
 clear hbx hbp
 have G := ξ HB.out.1
 refine (HAW.out W G.out).mono ?_
 rintro _ w1 ⟨_, rfl, g1, rfl⟩
 have HP := ξ (HB.out.2.1.grow g1)
 have HX := ξ (HB.out.2.2.grow g1)
 have G := ξ (G.out.trans g1)
 have p0 := HP.out.at 0 rfl
 have p1 := HP.out.at 1 rfl
 clear g1 HB
 go_wp2_with fail
 clear p0 p1
 refine (HSM.out w1 G.out).mono ?_
 rintro _ w2 ⟨r2, rfl, g2, h2⟩
 have G := ξ (G.out.trans g2)
 have HP := ξ (HP.out.grow g2)
 have HX := ξ (HX.out.grow g2)
 rcases h2.cases with ⟨rfl, N, hN, hs⟩ | rfl
 rotate_left
 ·clear h2 g2
  go_wp2_with fail
  refine (HAW.out _ G.out).mono ?_
  rintro _ wz ⟨_, rfl, gz, rfl⟩
  have G := ξ (G.out.trans gz)
  clear gz
  go_wp2_with fail
  go_ret
  exact ⟨_, rfl, G.out, rfl⟩
 have HN := ξ hN
 have HS := ξ hs
 have HTL := ξ (show T.length ≤ 8 from by have := hs.m; simpa using this)
 have x3 := HX.out.at 3 rfl
 have p0 := HP.out.at 0 rfl
 have x0 := HX.out.at 0 rfl
 have x1 := HX.out.at 1 rfl
 have x2 := HX.out.at 2 rfl
 have x4 := HX.out.at 4 rfl
 obtain ⟨nt, hnt⟩ : ∃ z, x.terms.length = z := ⟨_, rfl⟩
 rw [hnt] at x3
 have HNT := ξ hnt
 have hntb : nt ≤ 35184372088832 := by rw [← hnt]; exact HXR.out.2.2
 clear h2 g2 hN hs hnt
 by_cases h6 : (nt : Int) ≤ 6
 rotate_left
 ·go_wp2_with fail
  refine (HAW.out _ G.out).mono ?_
  rintro _ wz ⟨_, rfl, gz, rfl⟩
  have G := ξ (G.out.trans gz)
  clear gz
  go_wp2_with fail
  go_ret
  exact ⟨_, rfl, G.out, rfl⟩
 go_wp2_with fail
 clear p0 x0 x1 x2 x3 x4
 have e1 := HNT.out
 subst e1
 refine (ξ5h w2 nv x (by have h : V.length ≤ 6 := HS.out.n; have := HNV.out; omega) (SlL.grow HXR.out.1 G.out) HXR.out.2.1 HXN.out).mono ?_
 rintro _ w3 ⟨r3, rfl, g3, h3⟩
 have G := ξ (G.out.trans g3)
 have HP := ξ (HP.out.grow g3)
 have HX := ξ (HX.out.grow g3)
 have HS3 := ξ g3
 rcases h3.cases with ⟨rfl, k3⟩ | ⟨rfl, -⟩
 rotate_left
 ·clear h3 g3
  go_wp2_with fail
  refine (HAW.out _ G.out).mono ?_
  rintro _ wz ⟨_, rfl, gz, rfl⟩
  have G := ξ (G.out.trans gz)
  clear gz
  go_wp2_with fail
  go_ret
  exact ⟨_, rfl, G.out, rfl⟩
 have HRO := ξ k3
 have p0 := HP.out.at 0 rfl
 have p1 := HP.out.at 1 rfl
 clear h3 g3 k3
 go_wp2_with fail
 clear p0 p1
 have HNN := ξ (show N.length = nn ∧ nn ≤ 24 from ⟨HN.out, by have := HS.out.k; have := HN.out; omega⟩)
 refine (ξ10 w3 _ ⟨V, T.map RowM.s⟩ N q nn nc HN.out.symm (HS.out.prg.grow HS3.out) (HS.out.nodes.grow HS3.out) HS.out.i HS.out.nl (Nat.le_trans HS.out.n (by decide)) (by have := HS.out.m; have := HS.out.k; omega) HS.out.few).mono ?_
 rintro _ w4 ⟨r4, rfl, g4, h4⟩
 have G := ξ (G.out.trans g4)
 have HP := ξ (HP.out.grow g4)
 have HX := ξ (HX.out.grow g4)
 have HS4 := ξ (HS3.out.trans g4)
 rcases h4 with ⟨-, rfl⟩ | ⟨k4, k5, rfl⟩ | ⟨-, -, rfl⟩
 ·clear g4
  go_wp2_with fail
  go_ret
  exact ⟨_, rfl, G.out, rfl⟩
 rotate_left
 ·clear g4
  go_wp2_with fail
  go_ret
  exact ⟨_, rfl, G.out, rfl⟩
 have HPR := ξ (And.intro k4 k5)
 clear g4 k4 k5
 go_wp2_with fail
 obtain ⟨kn, rfl⟩ : ∃ n : Nat, kk = (n : Int) := ⟨kk.toNat, by omega⟩
 have hnp : 0 < nn := by
  have h := ξ9b HPR.out.2
  have := HN.out
  cases N with
  | nil => exact absurd rfl h
  | cons y N => simp at this; omega
 have HNP := ξ hnp
 obtain ⟨LT, hl1, hl2, hl3⟩ := HS.out.nodes
 have hll : LT.length = nn := by rw [hl2]; exact HN.out
 obtain ⟨bb, o, y0, rfl, hy0, hyc⟩ := SlL.at ξp hl1 hll (k := 0) hnp
 have HY := ξ (And.intro hl1 (And.intro hl2 (And.intro hl3 (And.intro hll hy0))))
 have HB0 := ξ (show (fun w' => Gr w4 w' ∧ ξ0 w' bp #[.slice a nv c, .slice b nr d]) w4.drew from ⟨(Gr.refl w4).drew, HP.out.grow (Gr.refl w4).drew⟩)
 clear hl1 hl2 hl3 hll
 obtain ⟨kd, mp, mn, mc, var, pos, ck, cp, cn, cc, row, vp, vn, vc2⟩ := y0
 have c0 : ∀ w', (Gr w4 w' ∧ ξ0 w' bp #[.slice a nv c, .slice b nr d]) → w'.cell? ⟨bb, o + 0, none⟩ = some (.int .i64 kd) := fun w' h => by have := hyc 0 _ rfl w' (HS4.out.trans h.1); rw [Nat.zero_mul, Nat.add_zero] at this; exact this
 have c1 : ∀ w', (Gr w4 w' ∧ ξ0 w' bp #[.slice a nv c, .slice b nr d]) → w'.cell? ⟨bb, o + 1, none⟩ = some (.slice mp mn mc) := fun w' h => by have := hyc 1 _ rfl w' (HS4.out.trans h.1); rw [Nat.zero_mul, Nat.add_zero] at this; exact this
 have c2 : ∀ w', (Gr w4 w' ∧ ξ0 w' bp #[.slice a nv c, .slice b nr d]) → w'.cell? ⟨bb, o + 2, none⟩ = some (.int .i64 var) := fun w' h => by have := hyc 2 _ rfl w' (HS4.out.trans h.1); rw [Nat.zero_mul, Nat.add_zero] at this; exact this
 have c3 : ∀ w', (Gr w4 w' ∧ ξ0 w' bp #[.slice a nv c, .slice b nr d]) → w'.cell? ⟨bb, o + 3, none⟩ = some (.int .i64 pos) := fun w' h => by have := hyc 3 _ rfl w' (HS4.out.trans h.1); rw [Nat.zero_mul, Nat.add_zero] at this; exact this
 have c4 : ∀ w', (Gr w4 w' ∧ ξ0 w' bp #[.slice a nv c, .slice b nr d]) → w'.cell? ⟨bb, o + 4, none⟩ = some (.int .i64 ck) := fun w' h => by have := hyc 4 _ rfl w' (HS4.out.trans h.1); rw [Nat.zero_mul, Nat.add_zero] at this; exact this
 have c5 : ∀ w', (Gr w4 w' ∧ ξ0 w' bp #[.slice a nv c, .slice b nr d]) → w'.cell? ⟨bb, o + 5, none⟩ = some (.slice cp cn cc) := fun w' h => by have := hyc 5 _ rfl w' (HS4.out.trans h.1); rw [Nat.zero_mul, Nat.add_zero] at this; exact this
 have c6 : ∀ w', (Gr w4 w' ∧ ξ0 w' bp #[.slice a nv c, .slice b nr d]) → w'.cell? ⟨bb, o + 6, none⟩ = some (.int .i64 row) := fun w' h => by have := hyc 6 _ rfl w' (HS4.out.trans h.1); rw [Nat.zero_mul, Nat.add_zero] at this; exact this
 have c7 : ∀ w', (Gr w4 w' ∧ ξ0 w' bp #[.slice a nv c, .slice b nr d]) → w'.cell? ⟨bb, o + 7, none⟩ = some (.slice vp vn vc2) := fun w' h => by have := hyc 7 _ rfl w' (HS4.out.trans h.1); rw [Nat.zero_mul, Nat.add_zero] at this; exact this
 rw [Nat.add_zero] at c0
 have p0 : ∀ w', (Gr w4 w' ∧ ξ0 w' bp #[.slice a nv c, .slice b nr d]) → w'.cell? ⟨bp, 0, none⟩ = some (.slice a nv c) := fun w' h => h.2.at 0 rfl
 have p1 : ∀ w', (Gr w4 w' ∧ ξ0 w' bp #[.slice a nv c, .slice b nr d]) → w'.cell? ⟨bp, 1, none⟩ = some (.slice b nr d) := fun w' h => h.2.at 1 rfl
 have hcap : nn ≤ nc := by obtain ⟨p', c', e, h1, -⟩ := HY.out.1.parts; cases e; rw [HY.out.2.2.2.1] at h1; exact h1
 obtain ⟨jn, hjn⟩ : ∃ z, kn % nn = z := ⟨_, rfl⟩
 have HJN := ξ (show jn < nn from by rw [← hjn]; exact Nat.mod_lt _ hnp)
 have hrem : Int.tmod (kn : Int) (nn : Int) = (jn : Int) := by rw [← hjn]; rfl
 have hwr : IntKind.i64.wrap (jn : Int) = (jn : Int) := by have := HJN.out; have := HNN.out; rw [IntKind.wrap_i64]; omega
 have hwk : IntKind.i64.wrap (kn : Int) = (kn : Int) := by rw [IntKind.wrap_i64]; omega
 have hj0 : (0 : Int) ≤ (jn : Int) := by omega
 have hjc : (jn : Int) ≤ (nc : Int) := by have := HJN.out; omega
 have hjc2 : jn ≤ nc := by have := HJN.out; omega
 have hn0 : ((nn : Int) == 0) = false := by simp; omega
 have hn1 : ¬ (nn : Int) = 0 := by omega
 have hn2 : (0 : Int) < (nn : Int) := by omega
 have hn3 : ¬ nn = 0 := by omega
 have hn4 : 0 < nn := by omega
 clear hyc hy0 hjn
 refine Inv.ξW (fun w' => Gr w4 w' ∧ ξ0 w' bp #[.slice a nv c, .slice b nr d]) (.read 0 (.read 1 (.read 2 (.read 3 (.read 4 (.read 5 (.read 6 (.read 7 (.read 8 (.read 9 (.read 10 (.read 11 (.one 12 (.read 13 (.read 14 (.read 15 (.read 16 (.read 18 (.read 20 (.read 21 (.read 22 (.two 17 (.two 19 (.one 23 (.one 24 (.one 25 (.read 26 (.read 27 .stop))))) 23 (.one 19 (.one 24 (.one 25 (.read 26 (.read 27 .stop)))))) 23 (.one 17 (.one 19 (.one 24 (.one 25 (.read 26 (.read 27 .stop)))))))))))))))))))))))))))) HB0.out (by kernel_rfl) (by kernel_rfl) rfl (by kernel_rfl) (fun _ _ d _ _ h => by cases d <;> exact h) ?_
 generalize w4.drew = w5 at HB0 ⊢
 repeat (refine Inv.ξP (v := ?_) rfl rfl (fun w' hg => ?_) (fun K hK => ?_); rotate_left; (go_simp; rfl); go_simp; refine hK _ _ ?_; clear hK K)
 refine Inv.ξ3i (args := ?_) rfl rfl rfl rfl rfl rfl (by kernel_rfl) (by kernel_rfl) ?_ (fun K hK => ?_)
 rotate_left
 ·go_simp; rfl
 have hgo := HS4.out.trans HB0.out.1
 refine (ξ10 w5 _ ⟨V, T.map RowM.s⟩ (N.take jn) (some ⟨bb, o, none⟩) jn nc (by rw [List.length_take]; have := HJN.out; have := HN.out; omega) (HS.out.prg.grow hgo) ((HS.out.nodes.grow hgo).take jn (Nat.le_of_lt HJN.out)) HS.out.i HS.out.nl (Nat.le_trans HS.out.n (by decide)) (by rw [List.length_take]; have := HS.out.m; have := HS.out.k; omega) (fun n hn => HS.out.few n (List.mem_of_mem_take hn))).mono ?_
 rintro _ w6 ⟨r6, rfl, g6, hc6⟩
 obtain rfl : r6 = .int .i64 13 := by
  rcases hc6 with ⟨h, _⟩ | ⟨_, h, _⟩ | ⟨_, _, rfl⟩
  ·exact absurd HPR.out.1 h
  ·exact absurd h (ξ3U HPR.out.2 (by have := HJN.out; have := HN.out; omega))
  ·rfl
 have GW := ξ (HB0.out.1.trans g6)
 have TW := ξ (HB0.out.2.grow g6)
 refine ⟨_, rfl, ⟨GW.out, TW.out⟩, ?_⟩
 go_simp
 refine hK _ _ ?_
 clear hK K hgo hc6 g6
 repeat (refine Inv.ξP (v := ?_) rfl rfl (fun w' hg => ?_) (fun K hK => ?_); rotate_left; (go_simp; rfl); go_simp; refine hK _ _ ?_; clear hK K)
 have s1 : SlL w6 8 encNode (.slice (some ⟨bb, o, none⟩) nn nc) LT := SlL.grow HY.out.1 (HS4.out.trans GW.out)
 have hl1 : LT.length = nn := HY.out.2.2.2.1
 have hn24 : nn ≤ 24 := HNN.out.2
 refine Inv.ξ8k ?_ ?_
 ·refine Inv.ξ3m (v := ?_) (w' := ?_) rfl rfl ?_ ?_ (fun K hK => ?_)
  rotate_left 2
  ·go_simp; first | rfl | (constructor <;> rfl)
  ·exact ⟨GW.out.alloc _, TW.out.grow ((Gr.refl w6).alloc _)⟩
  go_simp
  refine hK _ _ ?_
  clear hK K
  have o1 := OwnL.made0 (sz := 8) (enc := encNode) w6 w6.heap.size 47 (Nat.le_refl _)
  have g1 : Gr w6 (w6.alloc (.cells #[] 47)) := (Gr.refl _).alloc _
  obtain ⟨b1, hb1⟩ : ∃ b, w6.heap.size = b := ⟨_, rfl⟩
  generalize hW1 : w6.alloc _ = W1 at o1 g1 ⊢
  clear hW1
  rw [show (Value.slice (some ⟨w6.heap.size, 0, none⟩) 0 0) = .slice (some ⟨b1, 0, none⟩) 0 0 by rw [hb1]] at o1
  rw [hb1]
  refine Inv.ξ8k ?_ ?_
  ·refine Inv.ξ14 rfl rfl (fun K hK => ?_)
   refine ξ3v _ _ 26 47 _ 112 rfl Tryz.underlying26 ξ1u rfl (by decide) ξp ξ0Z w6.heap.size (some ⟨b1, 0, none⟩) _ [] LT rfl o1 rfl (SlL.grow s1 g1) (by simp only [List.length_nil, hl1]; omega) (by simp only [List.length_nil, hl1]; omega) g1.size ?_
   intro v7 W7 ho7 g17
   have g7 := g1.trans g17
   refine ⟨⟨GW.out.trans g7, TW.out.grow g7⟩, hK _ _ ?_⟩
   clear hK K
   refine Inv.ξ3m (v := ?_) (w' := ?_) rfl rfl ?_ ?_ (fun K hK => ?_)
   rotate_left 2
   ·go_simp; first | rfl | (constructor <;> rfl)
   ·exact ⟨GW.out.trans ((g7).alloc _), TW.out.grow ((g7).alloc _)⟩
   go_simp
   refine hK _ _ ?_
   clear hK K
   have BU := SlL.new W7 47 ξp [(⟨kd, mp, mn, mc, var, pos, ck, cp, cn, cc, row, vp, vn, vc2⟩ : ξb)] #[.int .i64 kd, .slice mp mn mc, .int .i64 var, .int .i64 pos, .int .i64 ck, .slice cp cn cc, .int .i64 row, .slice vp vn vc2] 1 rfl rfl (by decide)
   have su := BU.2
   have ho7 := ho7.grow BU.1
   have g7 := g7.trans BU.1
   clear BU o1 g1
   generalize W7.heap.size = b8 at su ⊢
   generalize W7.alloc _ = W7 at su ho7 g7 ⊢
   rw [List.nil_append] at ho7
   refine Inv.ξ14 rfl rfl (fun K hK => ?_)
   refine ξ05 _ _ 26 47 _ 112 rfl Tryz.underlying26 ξ1u rfl (by decide) ξp ξ0Z w6.heap.size v7 _ LT [(⟨kd, mp, mn, mc, var, pos, ck, cp, cn, cc, row, vp, vn, vc2⟩ : ξb)] rfl ho7 rfl su (by simp only [List.length_singleton, hl1]; omega) (by simp only [List.length_singleton, hl1]; omega) g7.size (by simp) ?_
   intro v8 W8 ho8 k8 _
   have g8 := ho7.gr g7 k8
   refine ⟨⟨GW.out.trans g8, TW.out.grow g8⟩, hK _ _ ?_⟩
   clear hK K
   obtain ⟨p8, c8, hv8, -, -⟩ := ho8.read.parts
   rw [show (LT ++ [(⟨kd, mp, mn, mc, var, pos, ck, cp, cn, cc, row, vp, vn, vc2⟩ : ξb)]).length = nn + 1 from by simp [hl1]] at hv8
   subst hv8
   have HGW8 := ξ (GW.out.trans g8)
   have HTW8 := ξ (TW.out.grow g8)
   have HO8 := ξ ho8.read
   clear su ho7 ho8 k8 g7 g8 s1
   obtain ⟨s0, hs0⟩ : ∃ s0, N[0]? = some s0 := ⟨_, List.getElem?_eq_getElem (by have := HN.out; omega)⟩
   have HNS := ξ (ξ3r HY.out.2.1 HY.out.2.2.1 (HS4.out.trans HGW8.out) (HY.out.2.2.1 0 _ s0 HY.out.2.2.2.2 hs0) HO8.out)
   have hfs0 := HS.out.few s0 (List.mem_of_getElem? hs0)
   clear hs0
   refine Inv.ξ3i (args := ?_) rfl rfl rfl rfl rfl rfl (by kernel_rfl) (by kernel_rfl) ?_ (fun K hK => ?_)
   rotate_left
   ·go_simp; rfl
   refine (ξ10 W8 _ ⟨V, T.map RowM.s⟩ (N ++ [s0]) p8 (nn + 1) c8 (by rw [List.length_append, HN.out]; rfl) (HS.out.prg.grow (HS4.out.trans HGW8.out)) HNS.out HS.out.i HS.out.nl (Nat.le_trans HS.out.n (by decide)) (by rw [List.length_append, List.length_singleton]; have := HS.out.m; have := HS.out.k; omega) (fun n hn => by
    rcases List.mem_append.1 hn with hn | hn
    ·exact HS.out.few n hn
    ·obtain rfl := List.mem_singleton.1 hn
     exact hfs0)).mono ?_
   rintro _ w9 ⟨r9, rfl, g9, hc9⟩
   obtain rfl : r9 = .int .i64 13 := by
    rcases hc9 with ⟨h, _⟩ | ⟨_, h, _⟩ | ⟨_, _, rfl⟩
    ·exact absurd HPR.out.1 h
    ·exact absurd h (ξ3b HPR.out.2)
    ·rfl
   have G9 := ξ (HGW8.out.trans g9)
   have T9 := ξ (HTW8.out.grow g9)
   refine ⟨_, rfl, ⟨G9.out, T9.out⟩, ?_⟩
   go_simp
   refine hK _ _ ?_
   clear hK K hc9 g9 hfs0
   repeat (refine Inv.ξP (v := ?_) rfl rfl (fun w' hg => ?_) (fun K hK => ?_); rotate_left; (go_simp; rfl); go_simp; refine hK _ _ ?_; clear hK K)
   refine Inv.ξ0p ?_
   clear c0 c1 c2 c3 c4 c5 c6 c7 p0 p1 hrem hwr hwk hj0 hjc hjc2 hn0 hn1 hn2 hn3 hn4
   go_wp2_with fail
   go_loopw [69] (fun i wz => ∃ (k : Nat) (W1 : World), W1 = wz ∧ k ≤ nn ∧ i = .int .i64 k ∧ (∀ j s, j < k → N[j]? = some s → s.kind ≠ 3) ∧ Gr w4 W1) (fun i _ => nn - (RowKit.intOf i).toNat)
   case atStart => exact ⟨0, _, rfl, Nat.zero_le _, rfl, fun j y hj => by omega, G9.out⟩
   case round =>
    obtain ⟨k, W1, rfl, hk, rfl, hp, hg⟩ := hrel
    have Hp := ξ hp
    have GL := ξ hg
    clear hp hg
    by_cases hlt : k < nn
    ·obtain ⟨b3, o3, y3, e3, hy3, hc⟩ := SlL.at ξp HY.out.1 HY.out.2.2.2.1 hlt
     cases e3
     have HY3 := ξ hy3
     obtain ⟨kd3, mp3, mn3, mc3, var3, pos3, ck3, cp3, cn3, cc3, row3, vp3, vn3, vd3⟩ := y3
     have c0 := hc 0 _ rfl W1 (HS4.out.trans GL.out)
     have c1 := hc 1 _ rfl W1 (HS4.out.trans GL.out)
     have c2 := hc 2 _ rfl W1 (HS4.out.trans GL.out)
     have c3 := hc 3 _ rfl W1 (HS4.out.trans GL.out)
     have c4 := hc 4 _ rfl W1 (HS4.out.trans GL.out)
     have c5 := hc 5 _ rfl W1 (HS4.out.trans GL.out)
     have c6 := hc 6 _ rfl W1 (HS4.out.trans GL.out)
     have c7 := hc 7 _ rfl W1 (HS4.out.trans GL.out)
     dsimp only at c0 c1 c2 c3 c4 c5 c6 c7
     rw [Nat.add_zero] at c0
     have HGA := ξ (show Gr w4 (W1.alloc (.cells (nodeA ⟨kd3, mp3, mn3, mc3, var3, pos3, ck3, cp3, cn3, cc3, row3, vp3, vn3, vd3⟩) 47)) from GL.out.alloc _)
     unfold nodeA at HGA
     dsimp only at HGA
     clear hy3 hc
     by_cases h3 : kd3 = 3
     ·have e3 : (kd3 == 3) = true := by simpa using h3
      clear h3
      go_wp2_with fail
      go_ret
      exact ⟨_, rfl, G.out.trans HGA.out, rfl⟩
     ·have e3 : (kd3 == 3) = false := by simpa using h3
      have H3 := ξ h3
      clear h3
      go_wp2_with fail
      refine ⟨⟨k + 1, _, rfl, by omega, by go_num, fun j s hj hs => ?_, HGA.out⟩, by simp [RowKit.intOf]; omega⟩
      by_cases hj2 : j < k
      ·exact Hp.out j s hj2 hs
      ·obtain rfl : j = k := by omega
       have := (HY.out.2.2.1 j _ s HY3.out hs).kind
       intro h
       rw [← this] at h
       exact H3.out h
    ·have HN3 := ξ (show ∀ s ∈ N, s.kind ≠ 3 from fun s hs => by
      obtain ⟨j, hj, rfl⟩ := List.getElem_of_mem hs
      exact Hp.out j _ (by have := HN.out; omega) (List.getElem?_eq_getElem hj))
     clear Hp
     go_wp2_with fail
     have HT3 := ξ (And.intro (HP.out.grow (GL.out.trans (Gr.refl W1).drew)) (And.intro (HX.out.grow (GL.out.trans (Gr.refl W1).drew)) (GL.out.trans (Gr.refl W1).drew)))
     have q0 : ∀ w', (ξ0 w' bp #[.slice a nv c, .slice b nr d] ∧ ξ0 w' bx #[.string ⟨x.name.toArray⟩, .int .i64 x.group, .int .i64 x.kind, .slice x.tp x.terms.length x.tc, .int .i64 x.bound]) → w'.cell? ⟨bp, 0, none⟩ = some (.slice a nv c) := fun w' h => h.1.at 0 rfl
     have q1 : ∀ w', (ξ0 w' bp #[.slice a nv c, .slice b nr d] ∧ ξ0 w' bx #[.string ⟨x.name.toArray⟩, .int .i64 x.group, .int .i64 x.kind, .slice x.tp x.terms.length x.tc, .int .i64 x.bound]) → w'.cell? ⟨bp, 1, none⟩ = some (.slice b nr d) := fun w' h => h.1.at 1 rfl
     have r0 : ∀ w', (ξ0 w' bp #[.slice a nv c, .slice b nr d] ∧ ξ0 w' bx #[.string ⟨x.name.toArray⟩, .int .i64 x.group, .int .i64 x.kind, .slice x.tp x.terms.length x.tc, .int .i64 x.bound]) → w'.cell? ⟨bx, 0, none⟩ = some (.string ⟨x.name.toArray⟩) := fun w' h => h.2.at 0 rfl
     have r1 : ∀ w', (ξ0 w' bp #[.slice a nv c, .slice b nr d] ∧ ξ0 w' bx #[.string ⟨x.name.toArray⟩, .int .i64 x.group, .int .i64 x.kind, .slice x.tp x.terms.length x.tc, .int .i64 x.bound]) → w'.cell? ⟨bx, 1, none⟩ = some (.int .i64 x.group) := fun w' h => h.2.at 1 rfl
     have r2 : ∀ w', (ξ0 w' bp #[.slice a nv c, .slice b nr d] ∧ ξ0 w' bx #[.string ⟨x.name.toArray⟩, .int .i64 x.group, .int .i64 x.kind, .slice x.tp x.terms.length x.tc, .int .i64 x.bound]) → w'.cell? ⟨bx, 2, none⟩ = some (.int .i64 x.kind) := fun w' h => h.2.at 2 rfl
     have r3 : ∀ w', (ξ0 w' bp #[.slice a nv c, .slice b nr d] ∧ ξ0 w' bx #[.string ⟨x.name.toArray⟩, .int .i64 x.group, .int .i64 x.kind, .slice x.tp x.terms.length x.tc, .int .i64 x.bound]) → w'.cell? ⟨bx, 3, none⟩ = some (.slice x.tp x.terms.length x.tc) := fun w' h => h.2.at 3 rfl
     have r4 : ∀ w', (ξ0 w' bp #[.slice a nv c, .slice b nr d] ∧ ξ0 w' bx #[.string ⟨x.name.toArray⟩, .int .i64 x.group, .int .i64 x.kind, .slice x.tp x.terms.length x.tc, .int .i64 x.bound]) → w'.cell? ⟨bx, 4, none⟩ = some (.int .i64 x.bound) := fun w' h => h.2.at 4 rfl
     refine LateS.ξ0y (fun w' => ξ0 w' bp #[.slice a nv c, .slice b nr d] ∧ ξ0 w' bx #[.string ⟨x.name.toArray⟩, .int .i64 x.group, .int .i64 x.kind, .slice x.tp x.terms.length x.tc, .int .i64 x.bound]) ⟨HT3.out.1, HT3.out.2.1⟩ (fun _ _ h g => ⟨h.1.grow g, h.2.grow g⟩) (lawNew #[.string ⟨x.name.toArray⟩, .int .i64 x.group, .int .i64 x.kind, .slice x.tp x.terms.length x.tc, .int .i64 x.bound]) 60 [0, 1, 3, 4, 6] [(2, 2), (5, 0), (7, 2), (8, 0), (9, 1), (10, 2), (11, 0)] (by kernel_rfl) (by kernel_rfl) rfl (by kernel_rfl) (fun _ _ d _ _ h => by cases d <;> exact h) (fun _ _ d _ _ h => by cases d <;> exact h) ?_
     have hsz : W1.heap.size = W1.drew.heap.size := rfl
     rw [hsz]
     clear hsz
     generalize W1.drew = W3 at HT3 ⊢
     repeat (refine LateS.ξ2O (v := ?_) rfl rfl (fun w' hg => ?_) (fun K hK => ?_); rotate_left; (go_simp; rfl); go_simp; refine hK _ ?_; clear hK K)
     refine LateS.ξ3g ⟨fun i hi => ?_, ?_⟩
     ·simp at hi
      rcases hi with rfl | rfl | rfl <;> exact ⟨_, rfl, rfl, fun w' => by go_simp; exact ⟨rfl, rfl⟩⟩
     clear q0 q1 r0 r1 r2 r3 r4
     have G3 := ξ (G.out.trans HT3.out.2.2)
     refine LateS.ξ0I rfl (fun K w10 k0 g10 f0 n0 hK => ?_)
     go_simp
     refine hK _ _ ?_
     clear hK K
     refine LateS.ξ0K rfl rfl (fun K hK w11 g11 => ?_)
     have f0 := ξo.grow f0 g11
     refine ξ1O _ _ 23 42 _ 64 rfl Tryz.underlying23 ξ0Q rfl (by decide) ξD ξ0j W3.heap.size k0 _ T rfl f0 (Nat.le_of_not_lt n0) rfl (SlL.grow HTT.out.2.1 ((G3.out.trans g10).trans g11)) (by have := HTL.out; omega) (by have := HTL.out; omega) ?_
     intro v12 w12 h12 g12 p12
     have G12 := ξ ((g10.trans g11).trans g12)
     refine ⟨fun _ => LateS.Slid.of_gr g12, ⟨HT3.out.1.grow G12.out, HT3.out.2.1.grow G12.out⟩, hK _ _ _ ?_⟩
     clear hK K
     have L12 := ξ (World.ownsRow.lt h12)
     have P12 := ξ p12
     clear g10 g11 g12 f0 p12
     refine LateS.ξ0I rfl (fun K w13 k7 g13 f7 n7 hK => ?_)
     have N7 := ξ (show W3.heap.size ≤ k7 from Nat.le_of_not_lt fun h => n7 (.inl (.inl h)))
     go_simp
     refine hK _ _ ?_
     clear hK K n7
     refine LateS.ξ0K rfl rfl (fun K hK w14 g14 => ?_)
     have HX1 := ξ (OwnL.ofFresh1 (enc := encRow) (x := x) (ξo.grow f7 g14) N7.out rfl rfl)
     have G14 := ξ ((G12.out.trans g13).trans g14)
     have H12 := ξ (h12.grow (g13.trans g14))
     clear g13 g14 f7 h12
     refine ξ05 _ _ 23 42 _ 64 rfl Tryz.underlying23 ξ0Q rfl (by decide) ξD ξ0j W3.heap.size v12 _ T [x] rfl H12.out rfl HX1.out.read (by have := HTL.out; simp; omega) (by have := HTL.out; simp; omega) G14.out.size (by simp) ?_
     intro v15 w15 h15 g15 p15
     have G15 := ξ (OwnL.gr H12.out G14.out g15)
     have L15 := ξ (World.ownsRow.lt h15)
     have HV12 := ξ (show ∀ k, v12.ownBlock = some k → k = k0 ∨ (w11.heap.size ≤ k ∧ k < w12.heap.size) from fun k e => by
      have l12 := L12.out k e
      rcases P12.out with h | h <;> rw [h] at e <;> have e := Option.some.inj e
      ·exact .inl e.symm
      ·exact .inr ⟨by omega, l12.2⟩)
     have P15 := ξ p15
     refine ⟨fun _ => LateS.Slid.of_grown g15 (fun k e => by
      rcases HV12.out k e with h | h
      ·exact .inl (.inl (.inr h))
      ·exact .inl (.inr h)), ⟨HT3.out.1.grow G15.out, HT3.out.2.1.grow G15.out⟩, hK _ _ _ ?_⟩
     clear hK K
     have H15 := ξ h15
     clear h15 g15 p15
     obtain ⟨pb, cb, hvb, -, -⟩ := H15.out.read.parts
     rw [show (T ++ [x]).length = T.length + 1 from by simp] at hvb
     subst hvb
     refine LateS.ξ15 (v := ?_) rfl rfl (fun w' hg => ?_) (fun K hK => ?_)
     rotate_left
     ·go_simp
      rfl
     go_simp
     refine hK _ _ ?_
     clear hK K
     refine LateS.ξ0I rfl (fun K w16 k10 g16 f10 n10 hK => ?_)
     have N10 := ξ (show ¬ ((((k10 < W3.heap.size ∨ k10 = k0) ∨ (w11.heap.size ≤ k10 ∧ k10 < w12.heap.size)) ∨ k10 = k7) ∨ (w14.heap.size ≤ k10 ∧ k10 < w15.heap.size)) from n10)
     have HNK2 := ξ (show (Value.slice pb (T.length + 1) cb).ownBlock ≠ some k10 from fun e => by
      have n10 := N10.out
      have l15 := L15.out k10 e
      rcases P15.out with h | h
      ·rcases HV12.out k10 (h ▸ e) with h | h <;> omega
      ·rw [h] at e
       have e := Option.some.inj e
       omega)
     unfold lawNew
     go_simp
     refine hK _ _ ?_
     clear hK K n10
     refine LateS.ξ0K rfl rfl (fun K hK w17 g17 => ?_)
     have C17 := ξ (show ξ0 w17 k10 #[.slice none 0 0, .slice none 0 0] from ⟨_, ξo.grow f10 g17⟩)
     have H17 := ξ (H15.out.grow (g16.trans g17))
     have G17 := ξ ((G15.out.trans g16).trans g17)
     clear g16 f10
     have d0 := C17.out.at 0 rfl
     have d1 := C17.out.at 1 rfl
     have f0 := ξ0.f C17.out 0
     have f1 := ξ0.f C17.out 1
     have hk10 : W3.heap.size ≤ k10 := Nat.le_of_not_lt fun h => N10.out (.inl (.inl (.inl (.inl h))))
     have hf := fill2 (.slice a nv c) (.slice pb (T.length + 1) cb) C17.out G17.out hk10
     have HFX := ξ (And.intro hf.1 (And.intro hf.2.1 (OwnL.fill H17.out HNK2.out (.slice a nv c) (.slice pb (T.length + 1) cb))))
     clear hf g17
     go_simp
     refine ⟨fun h => Bool.noConfusion h, ⟨HT3.out.1.grow HFX.out.1, HT3.out.2.1.grow HFX.out.1⟩, hK _ _ _ ?_⟩
     clear hK K d0 d1 f0 f1 hk10
     generalize (w17.setCell _ _).setCell _ _ = W18 at HFX ⊢
     refine LateS.ξ3j ?_
     have z0 := HFX.out.2.1.at 0 rfl
     have z1 := HFX.out.2.1.at 1 rfl
     go_wp2_with fail
     clear z0 z1
     have G18 := ξ (G3.out.trans HFX.out.1)
     have G28 := ξ ((HS4.out.trans HT3.out.2.2).trans HFX.out.1)
     have HPV := ξ (show ξC W18 (.agg #[.slice a nv c, .slice pb (T.length + 1) cb]) (addRow ⟨V, T.map RowM.s⟩ x.s) from by
      refine ⟨a, c, pb, cb, ?_, ?_, ?_⟩
      ·unfold prgV addRow
       simp [HNV.out]
      ·show ξ06 W18 (.slice a V.length c) V
       rw [HNV.out]; exact SlL.grow HTT.out.1 G18.out
      ·show ξ0H W18 (.slice pb (T.map RowM.s ++ [x.s]).length cb) (T.map RowM.s ++ [x.s])
       rw [show (T.map RowM.s ++ [x.s]).length = T.length + 1 from by simp]
       refine ⟨T ++ [x], HFX.out.2.2.read, by simp, fun y hy => ?_⟩
       rcases List.mem_append.1 hy with hy | hy
       ·exact SlL.grow (HTT.out.2.2.1 y hy) G18.out
       ·obtain rfl := List.mem_singleton.1 hy
        exact SlL.grow HXR.out.1 G18.out)
     refine (ξ10 W18 _ (addRow ⟨V, T.map RowM.s⟩ x.s) N (some ⟨bb, o, none⟩) nn nc HN.out.symm HPV.out (HS.out.nodes.grow G28.out) ⟨HS.out.i.1, fun r hr => by
      rcases List.mem_append.1 hr with hr | hr
      ·exact HS.out.i.2 r hr
      ·obtain rfl := List.mem_singleton.1 hr
       exact HXR.out.2.1⟩ (fun r hr => by
      rcases List.mem_append.1 hr with hr | hr
      ·exact HS.out.nl r hr
      ·obtain rfl := List.mem_singleton.1 hr
       exact Nat.le_trans HRO.out.2.2.1 (by decide)) (Nat.le_trans HS.out.n (by decide)) (by
      show (T.map RowM.s ++ [x.s]).length + N.length ≤ 40
      rw [List.length_append, List.length_map, List.length_singleton]
      have := HTL.out; have := HS.out.k; omega) HS.out.few).mono ?_
     rintro _ w19 ⟨r19, rfl, g19, h19⟩
     have G19 := ξ (G18.out.trans g19)
     have hok : ξr (addRow ⟨V, T.map RowM.s⟩ x.s) := ξ50 HPR.out.1.1 (by show ξI V.length x.s; rw [HNV.out]; exact HRO.out) (by have := HS.out.m; omega)
     have hwh : Whole (addRow ⟨V, T.map RowM.s⟩ x.s) := HPR.out.1.2
     obtain rfl : r19 = .int .i64 0 := by
      rcases h19 with ⟨h, _⟩ | ⟨_, _, rfl⟩ | ⟨_, h, _⟩
      ·exact absurd ⟨hok, hwh⟩ h
      ·rfl
      ·exact absurd (ξ3x HPR.out.2 HN3.out x.s) h
     clear h19 g19 hok hwh
     go_wp2_with fail
     go_ret
     exact ⟨_, rfl, G19.out, rfl⟩
  ·refine Inv.ξ3m (v := ?_) (w' := ?_) rfl rfl ?_ ?_ (fun K hK => ?_)
   rotate_left 2
   ·go_simp; first | rfl | (constructor <;> rfl)
   ·exact ⟨GW.out.trans ((g1).alloc _), TW.out.grow ((g1).alloc _)⟩
   go_simp
   refine hK _ _ ?_
   clear hK K
   have BU := SlL.new W1 47 ξp [(⟨kd, mp, mn, mc, var, pos, ck, cp, cn, cc, row, vp, vn, vc2⟩ : ξb)] #[.int .i64 kd, .slice mp mn mc, .int .i64 var, .int .i64 pos, .int .i64 ck, .slice cp cn cc, .int .i64 row, .slice vp vn vc2] 1 rfl rfl (by decide)
   have su := BU.2
   have o1 := o1.grow BU.1
   have g1 := g1.trans BU.1
   clear BU
   generalize W1.heap.size = b8 at su ⊢
   generalize W1.alloc _ = W1 at su o1 g1 ⊢
   refine Inv.ξ14 rfl rfl (fun K hK => ?_)
   refine ξ3v _ _ 26 47 _ 112 rfl Tryz.underlying26 ξ1u rfl (by decide) ξp ξ0Z w6.heap.size (some ⟨b1, 0, none⟩) _ [] LT rfl o1 rfl (SlL.grow s1 g1) (by simp only [List.length_nil, hl1]; omega) (by simp only [List.length_nil, hl1]; omega) g1.size ?_
   intro v7 W7 ho7 g17
   have g7 := g1.trans g17
   refine ⟨⟨GW.out.trans g7, TW.out.grow g7⟩, hK _ _ ?_⟩
   clear hK K
   have su := SlL.grow su g17
   clear o1 g1 g17
   rw [List.nil_append] at ho7
   refine Inv.ξ14 rfl rfl (fun K hK => ?_)
   refine ξ05 _ _ 26 47 _ 112 rfl Tryz.underlying26 ξ1u rfl (by decide) ξp ξ0Z w6.heap.size v7 _ LT [(⟨kd, mp, mn, mc, var, pos, ck, cp, cn, cc, row, vp, vn, vc2⟩ : ξb)] rfl ho7 rfl su (by simp only [List.length_singleton, hl1]; omega) (by simp only [List.length_singleton, hl1]; omega) g7.size (by simp) ?_
   intro v8 W8 ho8 k8 _
   have g8 := ho7.gr g7 k8
   refine ⟨⟨GW.out.trans g8, TW.out.grow g8⟩, hK _ _ ?_⟩
   clear hK K
   obtain ⟨p8, c8, hv8, -, -⟩ := ho8.read.parts
   rw [show (LT ++ [(⟨kd, mp, mn, mc, var, pos, ck, cp, cn, cc, row, vp, vn, vc2⟩ : ξb)]).length = nn + 1 from by simp [hl1]] at hv8
   subst hv8
   have HGW8 := ξ (GW.out.trans g8)
   have HTW8 := ξ (TW.out.grow g8)
   have HO8 := ξ ho8.read
   clear su ho7 ho8 k8 g7 g8 s1
   obtain ⟨s0, hs0⟩ : ∃ s0, N[0]? = some s0 := ⟨_, List.getElem?_eq_getElem (by have := HN.out; omega)⟩
   have HNS := ξ (ξ3r HY.out.2.1 HY.out.2.2.1 (HS4.out.trans HGW8.out) (HY.out.2.2.1 0 _ s0 HY.out.2.2.2.2 hs0) HO8.out)
   have hfs0 := HS.out.few s0 (List.mem_of_getElem? hs0)
   clear hs0
   refine Inv.ξ3i (args := ?_) rfl rfl rfl rfl rfl rfl (by kernel_rfl) (by kernel_rfl) ?_ (fun K hK => ?_)
   rotate_left
   ·go_simp; rfl
   refine (ξ10 W8 _ ⟨V, T.map RowM.s⟩ (N ++ [s0]) p8 (nn + 1) c8 (by rw [List.length_append, HN.out]; rfl) (HS.out.prg.grow (HS4.out.trans HGW8.out)) HNS.out HS.out.i HS.out.nl (Nat.le_trans HS.out.n (by decide)) (by rw [List.length_append, List.length_singleton]; have := HS.out.m; have := HS.out.k; omega) (fun n hn => by
    rcases List.mem_append.1 hn with hn | hn
    ·exact HS.out.few n hn
    ·obtain rfl := List.mem_singleton.1 hn
     exact hfs0)).mono ?_
   rintro _ w9 ⟨r9, rfl, g9, hc9⟩
   obtain rfl : r9 = .int .i64 13 := by
    rcases hc9 with ⟨h, _⟩ | ⟨_, h, _⟩ | ⟨_, _, rfl⟩
    ·exact absurd HPR.out.1 h
    ·exact absurd h (ξ3b HPR.out.2)
    ·rfl
   have G9 := ξ (HGW8.out.trans g9)
   have T9 := ξ (HTW8.out.grow g9)
   refine ⟨_, rfl, ⟨G9.out, T9.out⟩, ?_⟩
   go_simp
   refine hK _ _ ?_
   clear hK K hc9 g9 hfs0
   repeat (refine Inv.ξP (v := ?_) rfl rfl (fun w' hg => ?_) (fun K hK => ?_); rotate_left; (go_simp; rfl); go_simp; refine hK _ _ ?_; clear hK K)
   refine Inv.ξ0p ?_
   clear c0 c1 c2 c3 c4 c5 c6 c7 p0 p1 hrem hwr hwk hj0 hjc hjc2 hn0 hn1 hn2 hn3 hn4
   go_wp2_with fail
   go_loopw [69] (fun i wz => ∃ (k : Nat) (W1 : World), W1 = wz ∧ k ≤ nn ∧ i = .int .i64 k ∧ (∀ j s, j < k → N[j]? = some s → s.kind ≠ 3) ∧ Gr w4 W1) (fun i _ => nn - (RowKit.intOf i).toNat)
   case atStart => exact ⟨0, _, rfl, Nat.zero_le _, rfl, fun j y hj => by omega, G9.out⟩
   case round =>
    obtain ⟨k, W1, rfl, hk, rfl, hp, hg⟩ := hrel
    have Hp := ξ hp
    have GL := ξ hg
    clear hp hg
    by_cases hlt : k < nn
    ·obtain ⟨b3, o3, y3, e3, hy3, hc⟩ := SlL.at ξp HY.out.1 HY.out.2.2.2.1 hlt
     cases e3
     have HY3 := ξ hy3
     obtain ⟨kd3, mp3, mn3, mc3, var3, pos3, ck3, cp3, cn3, cc3, row3, vp3, vn3, vd3⟩ := y3
     have c0 := hc 0 _ rfl W1 (HS4.out.trans GL.out)
     have c1 := hc 1 _ rfl W1 (HS4.out.trans GL.out)
     have c2 := hc 2 _ rfl W1 (HS4.out.trans GL.out)
     have c3 := hc 3 _ rfl W1 (HS4.out.trans GL.out)
     have c4 := hc 4 _ rfl W1 (HS4.out.trans GL.out)
     have c5 := hc 5 _ rfl W1 (HS4.out.trans GL.out)
     have c6 := hc 6 _ rfl W1 (HS4.out.trans GL.out)
     have c7 := hc 7 _ rfl W1 (HS4.out.trans GL.out)
     dsimp only at c0 c1 c2 c3 c4 c5 c6 c7
     rw [Nat.add_zero] at c0
     have HGA := ξ (show Gr w4 (W1.alloc (.cells (nodeA ⟨kd3, mp3, mn3, mc3, var3, pos3, ck3, cp3, cn3, cc3, row3, vp3, vn3, vd3⟩) 47)) from GL.out.alloc _)
     unfold nodeA at HGA
     dsimp only at HGA
     clear hy3 hc
     by_cases h3 : kd3 = 3
     ·have e3 : (kd3 == 3) = true := by simpa using h3
      clear h3
      go_wp2_with fail
      go_ret
      exact ⟨_, rfl, G.out.trans HGA.out, rfl⟩
     ·have e3 : (kd3 == 3) = false := by simpa using h3
      have H3 := ξ h3
      clear h3
      go_wp2_with fail
      refine ⟨⟨k + 1, _, rfl, by omega, by go_num, fun j s hj hs => ?_, HGA.out⟩, by simp [RowKit.intOf]; omega⟩
      by_cases hj2 : j < k
      ·exact Hp.out j s hj2 hs
      ·obtain rfl : j = k := by omega
       have := (HY.out.2.2.1 j _ s HY3.out hs).kind
       intro h
       rw [← this] at h
       exact H3.out h
    ·have HN3 := ξ (show ∀ s ∈ N, s.kind ≠ 3 from fun s hs => by
      obtain ⟨j, hj, rfl⟩ := List.getElem_of_mem hs
      exact Hp.out j _ (by have := HN.out; omega) (List.getElem?_eq_getElem hj))
     clear Hp
     go_wp2_with fail
     have HT3 := ξ (And.intro (HP.out.grow (GL.out.trans (Gr.refl W1).drew)) (And.intro (HX.out.grow (GL.out.trans (Gr.refl W1).drew)) (GL.out.trans (Gr.refl W1).drew)))
     have q0 : ∀ w', (ξ0 w' bp #[.slice a nv c, .slice b nr d] ∧ ξ0 w' bx #[.string ⟨x.name.toArray⟩, .int .i64 x.group, .int .i64 x.kind, .slice x.tp x.terms.length x.tc, .int .i64 x.bound]) → w'.cell? ⟨bp, 0, none⟩ = some (.slice a nv c) := fun w' h => h.1.at 0 rfl
     have q1 : ∀ w', (ξ0 w' bp #[.slice a nv c, .slice b nr d] ∧ ξ0 w' bx #[.string ⟨x.name.toArray⟩, .int .i64 x.group, .int .i64 x.kind, .slice x.tp x.terms.length x.tc, .int .i64 x.bound]) → w'.cell? ⟨bp, 1, none⟩ = some (.slice b nr d) := fun w' h => h.1.at 1 rfl
     have r0 : ∀ w', (ξ0 w' bp #[.slice a nv c, .slice b nr d] ∧ ξ0 w' bx #[.string ⟨x.name.toArray⟩, .int .i64 x.group, .int .i64 x.kind, .slice x.tp x.terms.length x.tc, .int .i64 x.bound]) → w'.cell? ⟨bx, 0, none⟩ = some (.string ⟨x.name.toArray⟩) := fun w' h => h.2.at 0 rfl
     have r1 : ∀ w', (ξ0 w' bp #[.slice a nv c, .slice b nr d] ∧ ξ0 w' bx #[.string ⟨x.name.toArray⟩, .int .i64 x.group, .int .i64 x.kind, .slice x.tp x.terms.length x.tc, .int .i64 x.bound]) → w'.cell? ⟨bx, 1, none⟩ = some (.int .i64 x.group) := fun w' h => h.2.at 1 rfl
     have r2 : ∀ w', (ξ0 w' bp #[.slice a nv c, .slice b nr d] ∧ ξ0 w' bx #[.string ⟨x.name.toArray⟩, .int .i64 x.group, .int .i64 x.kind, .slice x.tp x.terms.length x.tc, .int .i64 x.bound]) → w'.cell? ⟨bx, 2, none⟩ = some (.int .i64 x.kind) := fun w' h => h.2.at 2 rfl
     have r3 : ∀ w', (ξ0 w' bp #[.slice a nv c, .slice b nr d] ∧ ξ0 w' bx #[.string ⟨x.name.toArray⟩, .int .i64 x.group, .int .i64 x.kind, .slice x.tp x.terms.length x.tc, .int .i64 x.bound]) → w'.cell? ⟨bx, 3, none⟩ = some (.slice x.tp x.terms.length x.tc) := fun w' h => h.2.at 3 rfl
     have r4 : ∀ w', (ξ0 w' bp #[.slice a nv c, .slice b nr d] ∧ ξ0 w' bx #[.string ⟨x.name.toArray⟩, .int .i64 x.group, .int .i64 x.kind, .slice x.tp x.terms.length x.tc, .int .i64 x.bound]) → w'.cell? ⟨bx, 4, none⟩ = some (.int .i64 x.bound) := fun w' h => h.2.at 4 rfl
     refine LateS.ξ0y (fun w' => ξ0 w' bp #[.slice a nv c, .slice b nr d] ∧ ξ0 w' bx #[.string ⟨x.name.toArray⟩, .int .i64 x.group, .int .i64 x.kind, .slice x.tp x.terms.length x.tc, .int .i64 x.bound]) ⟨HT3.out.1, HT3.out.2.1⟩ (fun _ _ h g => ⟨h.1.grow g, h.2.grow g⟩) (lawNew #[.string ⟨x.name.toArray⟩, .int .i64 x.group, .int .i64 x.kind, .slice x.tp x.terms.length x.tc, .int .i64 x.bound]) 60 [0, 1, 3, 4, 6] [(2, 2), (5, 0), (7, 2), (8, 0), (9, 1), (10, 2), (11, 0)] (by kernel_rfl) (by kernel_rfl) rfl (by kernel_rfl) (fun _ _ d _ _ h => by cases d <;> exact h) (fun _ _ d _ _ h => by cases d <;> exact h) ?_
     have hsz : W1.heap.size = W1.drew.heap.size := rfl
     rw [hsz]
     clear hsz
     generalize W1.drew = W3 at HT3 ⊢
     repeat (refine LateS.ξ2O (v := ?_) rfl rfl (fun w' hg => ?_) (fun K hK => ?_); rotate_left; (go_simp; rfl); go_simp; refine hK _ ?_; clear hK K)
     refine LateS.ξ3g ⟨fun i hi => ?_, ?_⟩
     ·simp at hi
      rcases hi with rfl | rfl | rfl <;> exact ⟨_, rfl, rfl, fun w' => by go_simp; exact ⟨rfl, rfl⟩⟩
     clear q0 q1 r0 r1 r2 r3 r4
     have G3 := ξ (G.out.trans HT3.out.2.2)
     refine LateS.ξ0I rfl (fun K w10 k0 g10 f0 n0 hK => ?_)
     go_simp
     refine hK _ _ ?_
     clear hK K
     refine LateS.ξ0K rfl rfl (fun K hK w11 g11 => ?_)
     have f0 := ξo.grow f0 g11
     refine ξ1O _ _ 23 42 _ 64 rfl Tryz.underlying23 ξ0Q rfl (by decide) ξD ξ0j W3.heap.size k0 _ T rfl f0 (Nat.le_of_not_lt n0) rfl (SlL.grow HTT.out.2.1 ((G3.out.trans g10).trans g11)) (by have := HTL.out; omega) (by have := HTL.out; omega) ?_
     intro v12 w12 h12 g12 p12
     have G12 := ξ ((g10.trans g11).trans g12)
     refine ⟨fun _ => LateS.Slid.of_gr g12, ⟨HT3.out.1.grow G12.out, HT3.out.2.1.grow G12.out⟩, hK _ _ _ ?_⟩
     clear hK K
     have L12 := ξ (World.ownsRow.lt h12)
     have P12 := ξ p12
     clear g10 g11 g12 f0 p12
     refine LateS.ξ0I rfl (fun K w13 k7 g13 f7 n7 hK => ?_)
     have N7 := ξ (show W3.heap.size ≤ k7 from Nat.le_of_not_lt fun h => n7 (.inl (.inl h)))
     go_simp
     refine hK _ _ ?_
     clear hK K n7
     refine LateS.ξ0K rfl rfl (fun K hK w14 g14 => ?_)
     have HX1 := ξ (OwnL.ofFresh1 (enc := encRow) (x := x) (ξo.grow f7 g14) N7.out rfl rfl)
     have G14 := ξ ((G12.out.trans g13).trans g14)
     have H12 := ξ (h12.grow (g13.trans g14))
     clear g13 g14 f7 h12
     refine ξ05 _ _ 23 42 _ 64 rfl Tryz.underlying23 ξ0Q rfl (by decide) ξD ξ0j W3.heap.size v12 _ T [x] rfl H12.out rfl HX1.out.read (by have := HTL.out; simp; omega) (by have := HTL.out; simp; omega) G14.out.size (by simp) ?_
     intro v15 w15 h15 g15 p15
     have G15 := ξ (OwnL.gr H12.out G14.out g15)
     have L15 := ξ (World.ownsRow.lt h15)
     have HV12 := ξ (show ∀ k, v12.ownBlock = some k → k = k0 ∨ (w11.heap.size ≤ k ∧ k < w12.heap.size) from fun k e => by
      have l12 := L12.out k e
      rcases P12.out with h | h <;> rw [h] at e <;> have e := Option.some.inj e
      ·exact .inl e.symm
      ·exact .inr ⟨by omega, l12.2⟩)
     have P15 := ξ p15
     refine ⟨fun _ => LateS.Slid.of_grown g15 (fun k e => by
      rcases HV12.out k e with h | h
      ·exact .inl (.inl (.inr h))
      ·exact .inl (.inr h)), ⟨HT3.out.1.grow G15.out, HT3.out.2.1.grow G15.out⟩, hK _ _ _ ?_⟩
     clear hK K
     have H15 := ξ h15
     clear h15 g15 p15
     obtain ⟨pb, cb, hvb, -, -⟩ := H15.out.read.parts
     rw [show (T ++ [x]).length = T.length + 1 from by simp] at hvb
     subst hvb
     refine LateS.ξ15 (v := ?_) rfl rfl (fun w' hg => ?_) (fun K hK => ?_)
     rotate_left
     ·go_simp
      rfl
     go_simp
     refine hK _ _ ?_
     clear hK K
     refine LateS.ξ0I rfl (fun K w16 k10 g16 f10 n10 hK => ?_)
     have N10 := ξ (show ¬ ((((k10 < W3.heap.size ∨ k10 = k0) ∨ (w11.heap.size ≤ k10 ∧ k10 < w12.heap.size)) ∨ k10 = k7) ∨ (w14.heap.size ≤ k10 ∧ k10 < w15.heap.size)) from n10)
     have HNK2 := ξ (show (Value.slice pb (T.length + 1) cb).ownBlock ≠ some k10 from fun e => by
      have n10 := N10.out
      have l15 := L15.out k10 e
      rcases P15.out with h | h
      ·rcases HV12.out k10 (h ▸ e) with h | h <;> omega
      ·rw [h] at e
       have e := Option.some.inj e
       omega)
     unfold lawNew
     go_simp
     refine hK _ _ ?_
     clear hK K n10
     refine LateS.ξ0K rfl rfl (fun K hK w17 g17 => ?_)
     have C17 := ξ (show ξ0 w17 k10 #[.slice none 0 0, .slice none 0 0] from ⟨_, ξo.grow f10 g17⟩)
     have H17 := ξ (H15.out.grow (g16.trans g17))
     have G17 := ξ ((G15.out.trans g16).trans g17)
     clear g16 f10
     have d0 := C17.out.at 0 rfl
     have d1 := C17.out.at 1 rfl
     have f0 := ξ0.f C17.out 0
     have f1 := ξ0.f C17.out 1
     have hk10 : W3.heap.size ≤ k10 := Nat.le_of_not_lt fun h => N10.out (.inl (.inl (.inl (.inl h))))
     have hf := fill2 (.slice a nv c) (.slice pb (T.length + 1) cb) C17.out G17.out hk10
     have HFX := ξ (And.intro hf.1 (And.intro hf.2.1 (OwnL.fill H17.out HNK2.out (.slice a nv c) (.slice pb (T.length + 1) cb))))
     clear hf g17
     go_simp
     refine ⟨fun h => Bool.noConfusion h, ⟨HT3.out.1.grow HFX.out.1, HT3.out.2.1.grow HFX.out.1⟩, hK _ _ _ ?_⟩
     clear hK K d0 d1 f0 f1 hk10
     generalize (w17.setCell _ _).setCell _ _ = W18 at HFX ⊢
     refine LateS.ξ3j ?_
     have z0 := HFX.out.2.1.at 0 rfl
     have z1 := HFX.out.2.1.at 1 rfl
     go_wp2_with fail
     clear z0 z1
     have G18 := ξ (G3.out.trans HFX.out.1)
     have G28 := ξ ((HS4.out.trans HT3.out.2.2).trans HFX.out.1)
     have HPV := ξ (show ξC W18 (.agg #[.slice a nv c, .slice pb (T.length + 1) cb]) (addRow ⟨V, T.map RowM.s⟩ x.s) from by
      refine ⟨a, c, pb, cb, ?_, ?_, ?_⟩
      ·unfold prgV addRow
       simp [HNV.out]
      ·show ξ06 W18 (.slice a V.length c) V
       rw [HNV.out]; exact SlL.grow HTT.out.1 G18.out
      ·show ξ0H W18 (.slice pb (T.map RowM.s ++ [x.s]).length cb) (T.map RowM.s ++ [x.s])
       rw [show (T.map RowM.s ++ [x.s]).length = T.length + 1 from by simp]
       refine ⟨T ++ [x], HFX.out.2.2.read, by simp, fun y hy => ?_⟩
       rcases List.mem_append.1 hy with hy | hy
       ·exact SlL.grow (HTT.out.2.2.1 y hy) G18.out
       ·obtain rfl := List.mem_singleton.1 hy
        exact SlL.grow HXR.out.1 G18.out)
     refine (ξ10 W18 _ (addRow ⟨V, T.map RowM.s⟩ x.s) N (some ⟨bb, o, none⟩) nn nc HN.out.symm HPV.out (HS.out.nodes.grow G28.out) ⟨HS.out.i.1, fun r hr => by
      rcases List.mem_append.1 hr with hr | hr
      ·exact HS.out.i.2 r hr
      ·obtain rfl := List.mem_singleton.1 hr
       exact HXR.out.2.1⟩ (fun r hr => by
      rcases List.mem_append.1 hr with hr | hr
      ·exact HS.out.nl r hr
      ·obtain rfl := List.mem_singleton.1 hr
       exact Nat.le_trans HRO.out.2.2.1 (by decide)) (Nat.le_trans HS.out.n (by decide)) (by
      show (T.map RowM.s ++ [x.s]).length + N.length ≤ 40
      rw [List.length_append, List.length_map, List.length_singleton]
      have := HTL.out; have := HS.out.k; omega) HS.out.few).mono ?_
     rintro _ w19 ⟨r19, rfl, g19, h19⟩
     have G19 := ξ (G18.out.trans g19)
     have hok : ξr (addRow ⟨V, T.map RowM.s⟩ x.s) := ξ50 HPR.out.1.1 (by show ξI V.length x.s; rw [HNV.out]; exact HRO.out) (by have := HS.out.m; omega)
     have hwh : Whole (addRow ⟨V, T.map RowM.s⟩ x.s) := HPR.out.1.2
     obtain rfl : r19 = .int .i64 0 := by
      rcases h19 with ⟨h, _⟩ | ⟨_, _, rfl⟩ | ⟨_, h, _⟩
      ·exact absurd ⟨hok, hwh⟩ h
      ·rfl
      ·exact absurd (ξ3x HPR.out.2 HN3.out x.s) h
     clear h19 g19 hok hwh
     go_wp2_with fail
     go_ret
     exact ⟨_, rfl, G19.out, rfl⟩
 ·have gr := Gr.refl w6
  refine Inv.ξ3m (v := ?_) (w' := ?_) rfl rfl ?_ ?_ (fun K hK => ?_)
  rotate_left 2
  ·go_simp; first | rfl | (constructor <;> rfl)
  ·exact ⟨GW.out.trans ((gr).alloc _), TW.out.grow ((gr).alloc _)⟩
  go_simp
  refine hK _ _ ?_
  clear hK K
  have BU := SlL.new w6 47 ξp [(⟨kd, mp, mn, mc, var, pos, ck, cp, cn, cc, row, vp, vn, vc2⟩ : ξb)] #[.int .i64 kd, .slice mp mn mc, .int .i64 var, .int .i64 pos, .int .i64 ck, .slice cp cn cc, .int .i64 row, .slice vp vn vc2] 1 rfl rfl (by decide)
  have su := BU.2
  have g1 := BU.1
  clear BU gr
  generalize w6.heap.size = b8 at su ⊢
  generalize hW1 : w6.alloc _ = W1 at su g1 ⊢
  clear hW1
  refine Inv.ξ3m (v := ?_) (w' := ?_) rfl rfl ?_ ?_ (fun K hK => ?_)
  rotate_left 2
  ·go_simp; first | rfl | (constructor <;> rfl)
  ·exact ⟨GW.out.trans (g1.alloc _), TW.out.grow (g1.alloc _)⟩
  go_simp
  refine hK _ _ ?_
  clear hK K
  have o1 := OwnL.made0 (sz := 8) (enc := encNode) W1 w6.heap.size 47 g1.size
  have su := SlL.grow su (show Gr W1 (W1.alloc (.cells #[] 47)) from (Gr.refl _).alloc _)
  have g1 : Gr w6 (W1.alloc (.cells #[] 47)) := g1.alloc _
  obtain ⟨b1, hb1⟩ : ∃ b, W1.heap.size = b := ⟨_, rfl⟩
  generalize hW1 : W1.alloc _ = W1' at su o1 g1 ⊢
  clear hW1
  rw [hb1] at o1 ⊢
  refine Inv.ξ14 rfl rfl (fun K hK => ?_)
  refine ξ3v _ _ 26 47 _ 112 rfl Tryz.underlying26 ξ1u rfl (by decide) ξp ξ0Z w6.heap.size (some ⟨b1, 0, none⟩) _ [] LT rfl o1 rfl (SlL.grow s1 g1) (by simp only [List.length_nil, hl1]; omega) (by simp only [List.length_nil, hl1]; omega) g1.size ?_
  intro v7 W7 ho7 g17
  have g7 := g1.trans g17
  refine ⟨⟨GW.out.trans g7, TW.out.grow g7⟩, hK _ _ ?_⟩
  clear hK K
  have su := SlL.grow su g17
  clear o1 g1 g17
  rw [List.nil_append] at ho7
  refine Inv.ξ14 rfl rfl (fun K hK => ?_)
  refine ξ05 _ _ 26 47 _ 112 rfl Tryz.underlying26 ξ1u rfl (by decide) ξp ξ0Z w6.heap.size v7 _ LT [(⟨kd, mp, mn, mc, var, pos, ck, cp, cn, cc, row, vp, vn, vc2⟩ : ξb)] rfl ho7 rfl su (by simp only [List.length_singleton, hl1]; omega) (by simp only [List.length_singleton, hl1]; omega) g7.size (by simp) ?_
  intro v8 W8 ho8 k8 _
  have g8 := ho7.gr g7 k8
  refine ⟨⟨GW.out.trans g8, TW.out.grow g8⟩, hK _ _ ?_⟩
  clear hK K
  obtain ⟨p8, c8, hv8, -, -⟩ := ho8.read.parts
  rw [show (LT ++ [(⟨kd, mp, mn, mc, var, pos, ck, cp, cn, cc, row, vp, vn, vc2⟩ : ξb)]).length = nn + 1 from by simp [hl1]] at hv8
  subst hv8
  have HGW8 := ξ (GW.out.trans g8)
  have HTW8 := ξ (TW.out.grow g8)
  have HO8 := ξ ho8.read
  clear su ho7 ho8 k8 g7 g8 s1
  obtain ⟨s0, hs0⟩ : ∃ s0, N[0]? = some s0 := ⟨_, List.getElem?_eq_getElem (by have := HN.out; omega)⟩
  have HNS := ξ (ξ3r HY.out.2.1 HY.out.2.2.1 (HS4.out.trans HGW8.out) (HY.out.2.2.1 0 _ s0 HY.out.2.2.2.2 hs0) HO8.out)
  have hfs0 := HS.out.few s0 (List.mem_of_getElem? hs0)
  clear hs0
  refine Inv.ξ3i (args := ?_) rfl rfl rfl rfl rfl rfl (by kernel_rfl) (by kernel_rfl) ?_ (fun K hK => ?_)
  rotate_left
  ·go_simp; rfl
  refine (ξ10 W8 _ ⟨V, T.map RowM.s⟩ (N ++ [s0]) p8 (nn + 1) c8 (by rw [List.length_append, HN.out]; rfl) (HS.out.prg.grow (HS4.out.trans HGW8.out)) HNS.out HS.out.i HS.out.nl (Nat.le_trans HS.out.n (by decide)) (by rw [List.length_append, List.length_singleton]; have := HS.out.m; have := HS.out.k; omega) (fun n hn => by
   rcases List.mem_append.1 hn with hn | hn
   ·exact HS.out.few n hn
   ·obtain rfl := List.mem_singleton.1 hn
    exact hfs0)).mono ?_
  rintro _ w9 ⟨r9, rfl, g9, hc9⟩
  obtain rfl : r9 = .int .i64 13 := by
   rcases hc9 with ⟨h, _⟩ | ⟨_, h, _⟩ | ⟨_, _, rfl⟩
   ·exact absurd HPR.out.1 h
   ·exact absurd h (ξ3b HPR.out.2)
   ·rfl
  have G9 := ξ (HGW8.out.trans g9)
  have T9 := ξ (HTW8.out.grow g9)
  refine ⟨_, rfl, ⟨G9.out, T9.out⟩, ?_⟩
  go_simp
  refine hK _ _ ?_
  clear hK K hc9 g9 hfs0
  repeat (refine Inv.ξP (v := ?_) rfl rfl (fun w' hg => ?_) (fun K hK => ?_); rotate_left; (go_simp; rfl); go_simp; refine hK _ _ ?_; clear hK K)
  refine Inv.ξ0p ?_
  clear c0 c1 c2 c3 c4 c5 c6 c7 p0 p1 hrem hwr hwk hj0 hjc hjc2 hn0 hn1 hn2 hn3 hn4
  go_wp2_with fail
  go_loopw [69] (fun i wz => ∃ (k : Nat) (W1 : World), W1 = wz ∧ k ≤ nn ∧ i = .int .i64 k ∧ (∀ j s, j < k → N[j]? = some s → s.kind ≠ 3) ∧ Gr w4 W1) (fun i _ => nn - (RowKit.intOf i).toNat)
  case atStart => exact ⟨0, _, rfl, Nat.zero_le _, rfl, fun j y hj => by omega, G9.out⟩
  case round =>
   obtain ⟨k, W1, rfl, hk, rfl, hp, hg⟩ := hrel
   have Hp := ξ hp
   have GL := ξ hg
   clear hp hg
   by_cases hlt : k < nn
   ·obtain ⟨b3, o3, y3, e3, hy3, hc⟩ := SlL.at ξp HY.out.1 HY.out.2.2.2.1 hlt
    cases e3
    have HY3 := ξ hy3
    obtain ⟨kd3, mp3, mn3, mc3, var3, pos3, ck3, cp3, cn3, cc3, row3, vp3, vn3, vd3⟩ := y3
    have c0 := hc 0 _ rfl W1 (HS4.out.trans GL.out)
    have c1 := hc 1 _ rfl W1 (HS4.out.trans GL.out)
    have c2 := hc 2 _ rfl W1 (HS4.out.trans GL.out)
    have c3 := hc 3 _ rfl W1 (HS4.out.trans GL.out)
    have c4 := hc 4 _ rfl W1 (HS4.out.trans GL.out)
    have c5 := hc 5 _ rfl W1 (HS4.out.trans GL.out)
    have c6 := hc 6 _ rfl W1 (HS4.out.trans GL.out)
    have c7 := hc 7 _ rfl W1 (HS4.out.trans GL.out)
    dsimp only at c0 c1 c2 c3 c4 c5 c6 c7
    rw [Nat.add_zero] at c0
    have HGA := ξ (show Gr w4 (W1.alloc (.cells (nodeA ⟨kd3, mp3, mn3, mc3, var3, pos3, ck3, cp3, cn3, cc3, row3, vp3, vn3, vd3⟩) 47)) from GL.out.alloc _)
    unfold nodeA at HGA
    dsimp only at HGA
    clear hy3 hc
    by_cases h3 : kd3 = 3
    ·have e3 : (kd3 == 3) = true := by simpa using h3
     clear h3
     go_wp2_with fail
     go_ret
     exact ⟨_, rfl, G.out.trans HGA.out, rfl⟩
    ·have e3 : (kd3 == 3) = false := by simpa using h3
     have H3 := ξ h3
     clear h3
     go_wp2_with fail
     refine ⟨⟨k + 1, _, rfl, by omega, by go_num, fun j s hj hs => ?_, HGA.out⟩, by simp [RowKit.intOf]; omega⟩
     by_cases hj2 : j < k
     ·exact Hp.out j s hj2 hs
     ·obtain rfl : j = k := by omega
      have := (HY.out.2.2.1 j _ s HY3.out hs).kind
      intro h
      rw [← this] at h
      exact H3.out h
   ·have HN3 := ξ (show ∀ s ∈ N, s.kind ≠ 3 from fun s hs => by
     obtain ⟨j, hj, rfl⟩ := List.getElem_of_mem hs
     exact Hp.out j _ (by have := HN.out; omega) (List.getElem?_eq_getElem hj))
    clear Hp
    go_wp2_with fail
    have HT3 := ξ (And.intro (HP.out.grow (GL.out.trans (Gr.refl W1).drew)) (And.intro (HX.out.grow (GL.out.trans (Gr.refl W1).drew)) (GL.out.trans (Gr.refl W1).drew)))
    have q0 : ∀ w', (ξ0 w' bp #[.slice a nv c, .slice b nr d] ∧ ξ0 w' bx #[.string ⟨x.name.toArray⟩, .int .i64 x.group, .int .i64 x.kind, .slice x.tp x.terms.length x.tc, .int .i64 x.bound]) → w'.cell? ⟨bp, 0, none⟩ = some (.slice a nv c) := fun w' h => h.1.at 0 rfl
    have q1 : ∀ w', (ξ0 w' bp #[.slice a nv c, .slice b nr d] ∧ ξ0 w' bx #[.string ⟨x.name.toArray⟩, .int .i64 x.group, .int .i64 x.kind, .slice x.tp x.terms.length x.tc, .int .i64 x.bound]) → w'.cell? ⟨bp, 1, none⟩ = some (.slice b nr d) := fun w' h => h.1.at 1 rfl
    have r0 : ∀ w', (ξ0 w' bp #[.slice a nv c, .slice b nr d] ∧ ξ0 w' bx #[.string ⟨x.name.toArray⟩, .int .i64 x.group, .int .i64 x.kind, .slice x.tp x.terms.length x.tc, .int .i64 x.bound]) → w'.cell? ⟨bx, 0, none⟩ = some (.string ⟨x.name.toArray⟩) := fun w' h => h.2.at 0 rfl
    have r1 : ∀ w', (ξ0 w' bp #[.slice a nv c, .slice b nr d] ∧ ξ0 w' bx #[.string ⟨x.name.toArray⟩, .int .i64 x.group, .int .i64 x.kind, .slice x.tp x.terms.length x.tc, .int .i64 x.bound]) → w'.cell? ⟨bx, 1, none⟩ = some (.int .i64 x.group) := fun w' h => h.2.at 1 rfl
    have r2 : ∀ w', (ξ0 w' bp #[.slice a nv c, .slice b nr d] ∧ ξ0 w' bx #[.string ⟨x.name.toArray⟩, .int .i64 x.group, .int .i64 x.kind, .slice x.tp x.terms.length x.tc, .int .i64 x.bound]) → w'.cell? ⟨bx, 2, none⟩ = some (.int .i64 x.kind) := fun w' h => h.2.at 2 rfl
    have r3 : ∀ w', (ξ0 w' bp #[.slice a nv c, .slice b nr d] ∧ ξ0 w' bx #[.string ⟨x.name.toArray⟩, .int .i64 x.group, .int .i64 x.kind, .slice x.tp x.terms.length x.tc, .int .i64 x.bound]) → w'.cell? ⟨bx, 3, none⟩ = some (.slice x.tp x.terms.length x.tc) := fun w' h => h.2.at 3 rfl
    have r4 : ∀ w', (ξ0 w' bp #[.slice a nv c, .slice b nr d] ∧ ξ0 w' bx #[.string ⟨x.name.toArray⟩, .int .i64 x.group, .int .i64 x.kind, .slice x.tp x.terms.length x.tc, .int .i64 x.bound]) → w'.cell? ⟨bx, 4, none⟩ = some (.int .i64 x.bound) := fun w' h => h.2.at 4 rfl
    refine LateS.ξ0y (fun w' => ξ0 w' bp #[.slice a nv c, .slice b nr d] ∧ ξ0 w' bx #[.string ⟨x.name.toArray⟩, .int .i64 x.group, .int .i64 x.kind, .slice x.tp x.terms.length x.tc, .int .i64 x.bound]) ⟨HT3.out.1, HT3.out.2.1⟩ (fun _ _ h g => ⟨h.1.grow g, h.2.grow g⟩) (lawNew #[.string ⟨x.name.toArray⟩, .int .i64 x.group, .int .i64 x.kind, .slice x.tp x.terms.length x.tc, .int .i64 x.bound]) 60 [0, 1, 3, 4, 6] [(2, 2), (5, 0), (7, 2), (8, 0), (9, 1), (10, 2), (11, 0)] (by kernel_rfl) (by kernel_rfl) rfl (by kernel_rfl) (fun _ _ d _ _ h => by cases d <;> exact h) (fun _ _ d _ _ h => by cases d <;> exact h) ?_
    have hsz : W1.heap.size = W1.drew.heap.size := rfl
    rw [hsz]
    clear hsz
    generalize W1.drew = W3 at HT3 ⊢
    repeat (refine LateS.ξ2O (v := ?_) rfl rfl (fun w' hg => ?_) (fun K hK => ?_); rotate_left; (go_simp; rfl); go_simp; refine hK _ ?_; clear hK K)
    refine LateS.ξ3g ⟨fun i hi => ?_, ?_⟩
    ·simp at hi
     rcases hi with rfl | rfl | rfl <;> exact ⟨_, rfl, rfl, fun w' => by go_simp; exact ⟨rfl, rfl⟩⟩
    clear q0 q1 r0 r1 r2 r3 r4
    have G3 := ξ (G.out.trans HT3.out.2.2)
    refine LateS.ξ0I rfl (fun K w10 k0 g10 f0 n0 hK => ?_)
    go_simp
    refine hK _ _ ?_
    clear hK K
    refine LateS.ξ0K rfl rfl (fun K hK w11 g11 => ?_)
    have f0 := ξo.grow f0 g11
    refine ξ1O _ _ 23 42 _ 64 rfl Tryz.underlying23 ξ0Q rfl (by decide) ξD ξ0j W3.heap.size k0 _ T rfl f0 (Nat.le_of_not_lt n0) rfl (SlL.grow HTT.out.2.1 ((G3.out.trans g10).trans g11)) (by have := HTL.out; omega) (by have := HTL.out; omega) ?_
    intro v12 w12 h12 g12 p12
    have G12 := ξ ((g10.trans g11).trans g12)
    refine ⟨fun _ => LateS.Slid.of_gr g12, ⟨HT3.out.1.grow G12.out, HT3.out.2.1.grow G12.out⟩, hK _ _ _ ?_⟩
    clear hK K
    have L12 := ξ (World.ownsRow.lt h12)
    have P12 := ξ p12
    clear g10 g11 g12 f0 p12
    refine LateS.ξ0I rfl (fun K w13 k7 g13 f7 n7 hK => ?_)
    have N7 := ξ (show W3.heap.size ≤ k7 from Nat.le_of_not_lt fun h => n7 (.inl (.inl h)))
    go_simp
    refine hK _ _ ?_
    clear hK K n7
    refine LateS.ξ0K rfl rfl (fun K hK w14 g14 => ?_)
    have HX1 := ξ (OwnL.ofFresh1 (enc := encRow) (x := x) (ξo.grow f7 g14) N7.out rfl rfl)
    have G14 := ξ ((G12.out.trans g13).trans g14)
    have H12 := ξ (h12.grow (g13.trans g14))
    clear g13 g14 f7 h12
    refine ξ05 _ _ 23 42 _ 64 rfl Tryz.underlying23 ξ0Q rfl (by decide) ξD ξ0j W3.heap.size v12 _ T [x] rfl H12.out rfl HX1.out.read (by have := HTL.out; simp; omega) (by have := HTL.out; simp; omega) G14.out.size (by simp) ?_
    intro v15 w15 h15 g15 p15
    have G15 := ξ (OwnL.gr H12.out G14.out g15)
    have L15 := ξ (World.ownsRow.lt h15)
    have HV12 := ξ (show ∀ k, v12.ownBlock = some k → k = k0 ∨ (w11.heap.size ≤ k ∧ k < w12.heap.size) from fun k e => by
     have l12 := L12.out k e
     rcases P12.out with h | h <;> rw [h] at e <;> have e := Option.some.inj e
     ·exact .inl e.symm
     ·exact .inr ⟨by omega, l12.2⟩)
    have P15 := ξ p15
    refine ⟨fun _ => LateS.Slid.of_grown g15 (fun k e => by
     rcases HV12.out k e with h | h
     ·exact .inl (.inl (.inr h))
     ·exact .inl (.inr h)), ⟨HT3.out.1.grow G15.out, HT3.out.2.1.grow G15.out⟩, hK _ _ _ ?_⟩
    clear hK K
    have H15 := ξ h15
    clear h15 g15 p15
    obtain ⟨pb, cb, hvb, -, -⟩ := H15.out.read.parts
    rw [show (T ++ [x]).length = T.length + 1 from by simp] at hvb
    subst hvb
    refine LateS.ξ15 (v := ?_) rfl rfl (fun w' hg => ?_) (fun K hK => ?_)
    rotate_left
    ·go_simp
     rfl
    go_simp
    refine hK _ _ ?_
    clear hK K
    refine LateS.ξ0I rfl (fun K w16 k10 g16 f10 n10 hK => ?_)
    have N10 := ξ (show ¬ ((((k10 < W3.heap.size ∨ k10 = k0) ∨ (w11.heap.size ≤ k10 ∧ k10 < w12.heap.size)) ∨ k10 = k7) ∨ (w14.heap.size ≤ k10 ∧ k10 < w15.heap.size)) from n10)
    have HNK2 := ξ (show (Value.slice pb (T.length + 1) cb).ownBlock ≠ some k10 from fun e => by
     have n10 := N10.out
     have l15 := L15.out k10 e
     rcases P15.out with h | h
     ·rcases HV12.out k10 (h ▸ e) with h | h <;> omega
     ·rw [h] at e
      have e := Option.some.inj e
      omega)
    unfold lawNew
    go_simp
    refine hK _ _ ?_
    clear hK K n10
    refine LateS.ξ0K rfl rfl (fun K hK w17 g17 => ?_)
    have C17 := ξ (show ξ0 w17 k10 #[.slice none 0 0, .slice none 0 0] from ⟨_, ξo.grow f10 g17⟩)
    have H17 := ξ (H15.out.grow (g16.trans g17))
    have G17 := ξ ((G15.out.trans g16).trans g17)
    clear g16 f10
    have d0 := C17.out.at 0 rfl
    have d1 := C17.out.at 1 rfl
    have f0 := ξ0.f C17.out 0
    have f1 := ξ0.f C17.out 1
    have hk10 : W3.heap.size ≤ k10 := Nat.le_of_not_lt fun h => N10.out (.inl (.inl (.inl (.inl h))))
    have hf := fill2 (.slice a nv c) (.slice pb (T.length + 1) cb) C17.out G17.out hk10
    have HFX := ξ (And.intro hf.1 (And.intro hf.2.1 (OwnL.fill H17.out HNK2.out (.slice a nv c) (.slice pb (T.length + 1) cb))))
    clear hf g17
    go_simp
    refine ⟨fun h => Bool.noConfusion h, ⟨HT3.out.1.grow HFX.out.1, HT3.out.2.1.grow HFX.out.1⟩, hK _ _ _ ?_⟩
    clear hK K d0 d1 f0 f1 hk10
    generalize (w17.setCell _ _).setCell _ _ = W18 at HFX ⊢
    refine LateS.ξ3j ?_
    have z0 := HFX.out.2.1.at 0 rfl
    have z1 := HFX.out.2.1.at 1 rfl
    go_wp2_with fail
    clear z0 z1
    have G18 := ξ (G3.out.trans HFX.out.1)
    have G28 := ξ ((HS4.out.trans HT3.out.2.2).trans HFX.out.1)
    have HPV := ξ (show ξC W18 (.agg #[.slice a nv c, .slice pb (T.length + 1) cb]) (addRow ⟨V, T.map RowM.s⟩ x.s) from by
     refine ⟨a, c, pb, cb, ?_, ?_, ?_⟩
     ·unfold prgV addRow
      simp [HNV.out]
     ·show ξ06 W18 (.slice a V.length c) V
      rw [HNV.out]; exact SlL.grow HTT.out.1 G18.out
     ·show ξ0H W18 (.slice pb (T.map RowM.s ++ [x.s]).length cb) (T.map RowM.s ++ [x.s])
      rw [show (T.map RowM.s ++ [x.s]).length = T.length + 1 from by simp]
      refine ⟨T ++ [x], HFX.out.2.2.read, by simp, fun y hy => ?_⟩
      rcases List.mem_append.1 hy with hy | hy
      ·exact SlL.grow (HTT.out.2.2.1 y hy) G18.out
      ·obtain rfl := List.mem_singleton.1 hy
       exact SlL.grow HXR.out.1 G18.out)
    refine (ξ10 W18 _ (addRow ⟨V, T.map RowM.s⟩ x.s) N (some ⟨bb, o, none⟩) nn nc HN.out.symm HPV.out (HS.out.nodes.grow G28.out) ⟨HS.out.i.1, fun r hr => by
     rcases List.mem_append.1 hr with hr | hr
     ·exact HS.out.i.2 r hr
     ·obtain rfl := List.mem_singleton.1 hr
      exact HXR.out.2.1⟩ (fun r hr => by
     rcases List.mem_append.1 hr with hr | hr
     ·exact HS.out.nl r hr
     ·obtain rfl := List.mem_singleton.1 hr
      exact Nat.le_trans HRO.out.2.2.1 (by decide)) (Nat.le_trans HS.out.n (by decide)) (by
     show (T.map RowM.s ++ [x.s]).length + N.length ≤ 40
     rw [List.length_append, List.length_map, List.length_singleton]
     have := HTL.out; have := HS.out.k; omega) HS.out.few).mono ?_
    rintro _ w19 ⟨r19, rfl, g19, h19⟩
    have G19 := ξ (G18.out.trans g19)
    have hok : ξr (addRow ⟨V, T.map RowM.s⟩ x.s) := ξ50 HPR.out.1.1 (by show ξI V.length x.s; rw [HNV.out]; exact HRO.out) (by have := HS.out.m; omega)
    have hwh : Whole (addRow ⟨V, T.map RowM.s⟩ x.s) := HPR.out.1.2
    obtain rfl : r19 = .int .i64 0 := by
     rcases h19 with ⟨h, _⟩ | ⟨_, _, rfl⟩ | ⟨_, h, _⟩
     ·exact absurd ⟨hok, hwh⟩ h
     ·rfl
     ·exact absurd (ξ3x HPR.out.2 HN3.out x.s) h
    clear h19 g19 hok hwh
    go_wp2_with fail
    go_ret
    exact ⟨_, rfl, G19.out, rfl⟩
end Prf
end Go.Proofs.YtcjgimlcefhhmaaGreatDoor

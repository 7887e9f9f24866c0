/-
  The example of chapter 23.
  awake of chapter 23.
-/
import Derived.Test.YtnlocdijdfclcaaGreatDoorMvj
import Derived.Test.YtnlocdijdfclcaaGreatDoorFind
import Derived.Test.YtnlocdijdfclcaaGreatDoorPlp
import Derived.Test.YtnlocdijdfclcaaGreatDoorTree
import Derived.Test.YtnlocdijdfclcaaGreatDoorMvf
namespace Go.Proofs.YtnlocdijdfclcaaGreatDoor
open Go.RowKit Go.Lib Lex
set_option linter.unusedVariables false
set_option linter.unusedSimpArgs false

def exM23 (q : Option Addr) : Mdl := { exM q with feeds := [[102], [103]], racks := [⟨[114], 1, 1⟩, ⟨[115], 2, 2⟩], machs := [⟨[109, 49], 1, 10⟩, ⟨[109, 50], 1, 5⟩, ⟨[109, 51], 2, 10⟩] }
theorem encRack_one : ∀ x, ∀ u ∈ encRack x, u.oneCell' = true := fun x u hu => by
 unfold encRack at hu
 simp only [List.mem_cons, List.not_mem_nil, or_false] at hu
 rcases hu with rfl | rfl | rfl <;> rfl
theorem encMach_one : ∀ x, ∀ u ∈ encMach x, u.oneCell' = true := fun x u hu => by
 unfold encMach at hu
 simp only [List.mem_cons, List.not_mem_nil, or_false] at hu
 rcases hu with rfl | rfl | rfl <;> rfl
theorem rack_info : (Tryz.prog.info? 56).map (fun i => (i.zero, i.size, i.bytes)) = some (some (.agg #[.string ⟨#[]⟩, .int .i64 0, .int .i64 0]), 3, 32) := by kernel_rfl
theorem mach_info : (Tryz.prog.info? 58).map (fun i => (i.zero, i.size, i.bytes)) = some (some (.agg #[.string ⟨#[]⟩, .int .i64 0, .int .i64 0]), 3, 32) := by kernel_rfl
set_option maxRecDepth 100000 in
set_option maxHeartbeats 1600000 in
theorem law23_Example (w : World) :
  Calls Tryz.prog 16 #[] w (Ret w fun r w' => ∃ P q, r = .agg (mcells P (exM23 q)) ∧ MdlAt w' P (exM23 q)) := by
 go_enter Tryz.func16, Tryz.ntmps16
 go_wp2_with fail
 have b0 := Cells.new w #[.slice none 0 0, .slice none 0 0, .slice none 0 0, .slice none 0 0, .slice none 0 0, .slice none 0 0, .int .i64 0, .int .i64 0, .int .i64 0, .int .i64 0, .slice none 0 0] 29
 generalize w.alloc _ = W0 at b0 ⊢
 generalize hb0 : w.heap.size = r0 at b0 ⊢
 have HB0 := Lib.hid (show ¬ r0 < w.heap.size by omega)
 clear hb0
 have T0 := Lib.hid b0.2
 have G := Lib.hid b0.1
 clear b0
 refine (law15_ExampleOff W0).mono ?_
 rintro _ W ⟨_, rfl, g1, P, q, rfl, hm, hoff⟩
 have HO := Lib.hid (hoff r0 T0.out.lt)
 have HM := Lib.hid hm
 have G := Lib.hid (G.out.trans g1)
 have T0 := Lib.hid (T0.out.grow g1)
 clear g1
 clear hm hoff
 obtain ⟨p0, c0, p1, c1, p2, c2, p3, c3, p4, c4, p5, c5, p6, c6⟩ := P
 obtain ⟨br, or, xr, hp2, hx, hrc⟩ := rack_at (n := 1) (k := 0) HM.out.racks rfl (by decide)
 obtain rfl : xr = ⟨[114], 1, 1⟩ := (Option.some.inj hx).symm
 dsimp only at hp2
 subst hp2
 obtain ⟨W1, h1⟩ : ∃ x, W.alloc (.cells #[.slice p0 2 c0, .slice p1 1 c1, .slice (some ⟨br, or, none⟩) 1 c2, .slice p3 2 c3, .slice p4 1 c4, .slice p5 1 c5, .int .i64 1, .int .i64 1, .int .i64 0, .int .i64 0, .slice p6 0 c6] 29) = x := ⟨_, rfl⟩
 have b1 := Cells.new W #[.slice p0 2 c0, .slice p1 1 c1, .slice (some ⟨br, or, none⟩) 1 c2, .slice p3 2 c3, .slice p4 1 c4, .slice p5 1 c5, .int .i64 1, .int .i64 1, .int .i64 0, .int .i64 0, .slice p6 0 c6] 29
 rw [h1] at b1
 obtain ⟨W2, h2⟩ : ∃ x, W1.alloc (.cells #[.string ⟨#[102]⟩, .string ⟨#[103]⟩] 9) = x := ⟨_, rfl⟩
 have b2 := SlL.new W1 9 encS_len [[102], [103]] #[.string ⟨#[102]⟩, .string ⟨#[103]⟩] 2 rfl rfl (by decide)
 rw [h2] at b2
 obtain ⟨bm, hbm⟩ : ∃ n, W.heap.size = n := ⟨_, rfl⟩
 obtain ⟨bf, hbf⟩ : ∃ n, W1.heap.size = n := ⟨_, rfl⟩
 rw [hbm] at b1
 rw [hbf] at b2
 have T2 := b1.2.grow b2.1
 have d1 := T2.at 1 rfl
 have f1 := Cells.f T2 1
 obtain ⟨W3, h3⟩ : ∃ x, W2.setCell ⟨bm, 1, none⟩ (.slice (some ⟨bf, 0, none⟩) 2 2) = x := ⟨_, rfl⟩
 have T3 := T2.set 1 (.slice (some ⟨bf, 0, none⟩) 2 2)
 rw [h3] at T3
 have g3 : Gr W W3 := by rw [← h3]; exact (b1.1.trans b2.1).set (by omega) _
 obtain ⟨W4, h4⟩ : ∃ x, W3.alloc (.cells #[] 56) = x := ⟨_, rfl⟩
 obtain ⟨be, hbe⟩ : ∃ n, W3.heap.size = n := ⟨_, rfl⟩
 have o4 := OwnL.made0 (sz := 3) (enc := encRack) W3 W3.heap.size 56 (Nat.le_refl _)
 have g4 : Gr W3 W4 := by rw [← h4]; exact (Gr.refl _).alloc _
 rw [h4, hbe] at o4
 have T4 := T3.grow g4
 have d2 := T4.at 2 rfl
 obtain ⟨r0', r1', r2'⟩ := hrc _ (g3.trans g4)
 have b5 := SlL.new W4 56 encRack_len [⟨[114], 1, 1⟩, ⟨[115], 2, 2⟩] #[.string ⟨#[114]⟩, .int .i64 1, .int .i64 1, .string ⟨#[115]⟩, .int .i64 2, .int .i64 2] 2 rfl rfl (by decide)
 obtain ⟨W5, h5⟩ : ∃ x, W4.alloc (.cells #[.string ⟨#[114]⟩, .int .i64 1, .int .i64 1, .string ⟨#[115]⟩, .int .i64 2, .int .i64 2] 56) = x := ⟨_, rfl⟩
 obtain ⟨bk, hbk⟩ : ∃ n, W4.heap.size = n := ⟨_, rfl⟩
 rw [h5, hbk] at b5
 rw [Nat.zero_mul, Nat.add_zero] at r0' r1' r2'
 unfold mcells exM exM0
 go_wp2_with (at_builtin; refine Hold.hold ?_)
 have g5 := b5.1
 have g35 := g4.trans g5
 have S3 : SlL W3 1 encS (.slice (some ⟨bf, 0, none⟩) 2 2) [[102], [103]] := by
  have := SlL.upd b2.2 (upd_set W2 bm 1 (.slice (some ⟨bf, 0, none⟩) 2 2)) (Off.at (by have := b1.2.lt; omega))
  rw [h3] at this
  exact this
 have o5 := o4.grow g5
 have hlt1 := b1.2.lt
 have HBF := Lib.hid (show bf ≠ bm by omega)
 have HBF1 := Lib.hid (show W.heap.size ≤ bf by have := b1.1.size; omega)
 have hs3 : W2.heap.size = W3.heap.size := by rw [← h3]; simp [World.setCell]
 have hlt3 : bm < W3.heap.size := by have := b2.1.size; omega
 have HLT := Lib.hid (show ¬ bm < W.heap.size by omega)
 clear d1 f1 d2 r0' r1' r2' T2 T4 b1 b2 h1 h2 h3 h4 h5 g4 o4 hs3 hlt1
 refine Hold.go ?_
 refine wpList_appendL rfl _ _ 23 56 _ 32 rfl Tryz.underlying23 rack_info rfl (by decide) encRack_len encRack_one be (.slice (some ⟨be, 0, none⟩) 0 0) (.slice (some ⟨bk, 0, none⟩) 2 2) [] [⟨[114], 1, 1⟩, ⟨[115], 2, 2⟩] rfl o5 rfl b5.2 (by decide) (by decide) (by have := g35.size; omega) ?_
 intro v6 W6 ho6 k6
 have o5b : OwnL W5 W3.heap.size 56 3 encRack (.slice (some ⟨be, 0, none⟩) 0 0) [] := by rw [hbe]; exact o5
 have g36 := o5b.gr g35 k6
 have S6 := S3.grow g36
 have T6 := T3.grow g36
 obtain ⟨p2, c2', rfl, _, _⟩ := ho6.read.parts
 have d2 := T6.at 2 rfl
 have f2 := Cells.f T6 2
 obtain ⟨W7, h7⟩ : ∃ x, W6.setCell ⟨bm, 2, none⟩ (.slice p2 2 c2') = x := ⟨_, rfl⟩
 go_wp2_with fail
 have hoff2 : Off p2 bm := fun a e => by
  subst e
  intro h
  have := (ho6.lt a.block rfl).1
  omega
 have S7 : SlL W7 1 encS (.slice (some ⟨bf, 0, none⟩) 2 2) [[102], [103]] := by
  have := SlL.upd S6 (upd_set W6 bm 2 (.slice p2 2 c2')) (Off.at HBF.out)
  rw [h7] at this
  exact this
 have R7 : SlL W7 3 encRack (.slice p2 2 c2') [⟨[114], 1, 1⟩, ⟨[115], 2, 2⟩] := by
  have := SlL.upd ho6.read (upd_set W6 bm 2 (.slice p2 2 c2')) hoff2
  rw [h7] at this
  exact this
 have T7 := T6.set 2 (.slice p2 2 c2')
 rw [h7] at T7
 have g7 : Gr W W7 := by rw [← h7]; exact (g3.trans g36).set HLT.out _
 have hsz7 : W6.heap.size = W7.heap.size := by rw [← h7]; simp [World.setCell]
 have HOFF2 := Lib.hid hoff2
 have hlt7 : bm < W7.heap.size := by have := g36.size; omega
 have HBM := Lib.hid hlt7
 have HRP := Lib.hid (show Off p2 r0 from fun a e => by
  subst e
  intro h
  have := (ho6.lt a.block rfl).1
  have := T0.out.lt
  have := HLT.out
  omega)
 have HBF2 := Lib.hid (show bf ≠ r0 by have := T0.out.lt; have := HBF1.out; omega)
 obtain ⟨bq, oq, xa, hp3, hxa, hra⟩ := mach_at (n := 2) (k := 0) HM.out.machs rfl (by decide)
 obtain rfl : xa = ⟨[109, 49], 1, 10⟩ := (Option.some.inj hxa).symm
 obtain ⟨bq', oq', xb, hp3', hxb, hrb⟩ := mach_at (n := 2) (k := 1) HM.out.machs rfl (by decide)
 obtain rfl : xb = ⟨[109, 50], 1, 5⟩ := (Option.some.inj hxb).symm
 dsimp only at hp3
 subst hp3
 have hp3' := Option.some.inj hp3'
 injection hp3' with e1 e2 _
 subst e1 e2
 have a0 : ∀ w', Gr W7 w' → _ := fun w' g => (hra w' (g7.trans g)).1
 have a1 : ∀ w', Gr W7 w' → _ := fun w' g => (hra w' (g7.trans g)).2.1
 have a2 : ∀ w', Gr W7 w' → _ := fun w' g => (hra w' (g7.trans g)).2.2
 have a3 : ∀ w', Gr W7 w' → _ := fun w' g => (hrb w' (g7.trans g)).1
 have a4 : ∀ w', Gr W7 w' → _ := fun w' g => (hrb w' (g7.trans g)).2.1
 have a5 : ∀ w', Gr W7 w' → _ := fun w' g => (hrb w' (g7.trans g)).2.2
 simp only [Nat.zero_mul, Nat.add_zero, Nat.one_mul] at a0 a1 a2 a3 a4 a5
 have T7 := Lib.hid (show Cells W7 bm #[.slice p0 2 c0, .slice (some ⟨bf, 0, none⟩) 2 2, .slice p2 2 c2', .slice (some ⟨bq, oq, none⟩) 2 c3, .slice p4 1 c4, .slice p5 1 c5, .int .i64 1, .int .i64 1, .int .i64 0, .int .i64 0, .slice p6 0 c6] from by simpa using T7)
 have t3 := T7.out.c 3 rfl
 have S7 := Lib.hid S7
 have R7 := Lib.hid R7
 have G7 := Lib.hid g7
 clear T3 T6 hp3' hxa hxb hra hrb ho6 S6 k6 g36 g35 g3 hoff2 S3 hlt3 hsz7 h7 d2 f2 hrc hx o5 o5b
 have g0 : Gr W7 W7.drew := (Gr.refl _).drew
 refine wp_region_tree (.read 1 (.read 2 (.read 3 (.read 4 (.read 5 (.read 6 (.read 7 (.read 8 (.read 9 (.two 0 (.one 10 (.one 11 (.read 12 (.one 13 .stop)))) 10 (.one 0 (.one 11 (.read 12 (.one 13 .stop)))))))))))))) (by kernel_rfl) (by kernel_rfl) rfl (by kernel_rfl) (fun _ _ d _ _ h => by cases d <;> exact h) ?_
 repeat (refine wpT_readB (v := ?_) g0 rfl rfl (fun w' hg => ?_) (fun K hK => ?_); rotate_left; (go_simp; rfl); go_simp; refine hK _ _ ?_; clear hK K)
 generalize W7.drew = W7' at g0 ⊢
 have HP2 := Lib.hid (show Off p2 bm from HOFF2.out)
 refine wpT_two ?_ ?_
 ·refine wpT_val (v := ?_) (w' := ?_) rfl rfl ?_ ?_ (fun K hK => ?_)
  rotate_left 2
  ·go_simp; first | rfl | (constructor <;> rfl)
  ·exact (Gr.refl _).alloc _
  go_simp
  refine hK _ _ ?_
  clear hK K
  have o8 := OwnL.made0 (sz := 3) (enc := encMach) W7' W7.heap.size 58 g0.size
  have g8 : Gr W7' (W7'.alloc (.cells #[] 58)) := (Gr.refl _).alloc _
  generalize W7'.heap.size = be2 at o8 ⊢
  generalize W7'.alloc _ = W8 at o8 g8 ⊢
  refine wpT_val (v := ?_) (w' := ?_) rfl rfl ?_ ?_ (fun K hK => ?_)
  rotate_left 2
  ·go_simp; first | rfl | (constructor <;> rfl)
  ·exact (Gr.refl _).alloc _
  go_simp
  refine hK _ _ ?_
  clear hK K
  have s9 := SlL.new W8 58 encMach_len [⟨[109, 49], 1, 10⟩, ⟨[109, 50], 1, 5⟩, ⟨[109, 51], 2, 10⟩] #[.string ⟨#[109, 49]⟩, .int .i64 1, .int .i64 10, .string ⟨#[109, 50]⟩, .int .i64 1, .int .i64 5, .string ⟨#[109, 51]⟩, .int .i64 2, .int .i64 10] 3 rfl rfl (by decide)
  have g79 := (g0.trans g8).trans s9.1
  have o9 := o8.grow s9.1
  have s9 := s9.2
  generalize W8.heap.size = bk2 at s9 ⊢
  generalize W8.alloc _ = W9 at s9 g79 o9 ⊢
  refine wpT_do rfl rfl (fun K hK => ?_)
  refine wp_appendF _ _ 24 58 _ 32 rfl Tryz.underlying24 mach_info rfl (by decide) encMach_len encMach_one W7.heap.size (some ⟨be2, 0, none⟩) _ [] [⟨[109, 49], 1, 10⟩, ⟨[109, 50], 1, 5⟩, ⟨[109, 51], 2, 10⟩] rfl o9 rfl s9 (by decide) (by decide) g79.size ?_
  intro v10 W10 ho10 g910
  refine ⟨fun _ => g910, hK _ _ ?_⟩
  clear hK K
  have g710 := g79.trans g910
  have ho10 : OwnL W10 W7.heap.size 58 3 encMach v10 [⟨[109, 49], 1, 10⟩, ⟨[109, 50], 1, 5⟩, ⟨[109, 51], 2, 10⟩] := ho10
  obtain ⟨p3', c3', rfl, _, _⟩ := ho10.read.parts
  have g11 := Gr.refl W10
  repeat (refine wpT_readB (v := ?_) g11 rfl rfl (fun w' hg => ?_) (fun K hK => ?_); rotate_left; (go_simp; rfl); go_simp; refine hK _ _ ?_; clear hK K)
  have d3 := (T7.out.grow g710).at 3 rfl
  have f3 := Cells.f (T7.out.grow g710) 3
  refine wpT_do rfl rfl (fun K hK => ?_)
  go_simp
  refine ⟨fun h => Bool.noConfusion h, hK _ _ ?_⟩
  clear hK K
  have hoff3 : Off p3' bm := fun a e => by
   subst e
   intro h
   have := (ho10.lt a.block rfl).1
   have := HBM.out
   omega
  have hoff3r : Off p3' r0 := fun a e => by
   subst e
   intro h
   have := (ho10.lt a.block rfl).1
   have := G7.out.size
   have := T0.out.lt
   omega
  have hu := upd_set W10 bm 3 (.slice p3' 3 c3')
  have hS := SlL.upd (S7.out.grow g710) hu (Off.at HBF.out)
  have hR := SlL.upd (R7.out.grow g710) hu HP2.out
  have hQ := SlL.upd ho10.read hu hoff3
  have hT := (T7.out.grow g710).set 3 (.slice p3' 3 c3')
  have hG := (G7.out.trans g710).set HLT.out (i := 3) (.slice p3' 3 c3')
  clear d3 f3 hu hoff3 ho10 g11 o9 s9 g79 g710 g910
  generalize W10.setCell _ _ = W11 at hS hR hQ hT hG ⊢
  refine wpT_stop ?_
  have HM11 := HM.out.grow hG
  have hmv : MdlAt W11 ⟨p0, c0, some ⟨bf, 0, none⟩, 2, p2, c2', p3', c3', p4, c4, p5, c5, p6, c6⟩ (exM23 q) :=
   ⟨HM11.sites, hS, hR, hQ, HM11.links, HM11.items, HM11.rules, HM11.ons, HM11.mss, by unfold exM23 exM exM0; simp, HM11.onb, HM11.msb⟩
  have T11 : Cells W11 bm #[.slice p0 2 c0, .slice (some ⟨bf, 0, none⟩) 2 2, .slice p2 2 c2', .slice p3' 3 c3', .slice p4 1 c4, .slice p5 1 c5, .int .i64 1, .int .i64 1, .int .i64 0, .int .i64 0, .slice p6 0 c6] := by simpa using hT
  have R11 := T0.out.grow hG
  have HMV := Lib.hid hmv
  have HG := Lib.hid (G.out.trans hG)
  have HR11 := Lib.hid R11
  have HOFF := Lib.hid hoff3r
  clear hS hR hQ hT hG HM11 hmv hoff3r a0 a1 a2 a3 a4 a5 t3 g0 T7 S7 R7
  have d0 := (T11).at 0 rfl
  have d1 := (T11).at 1 rfl
  have d2 := (T11).at 2 rfl
  have d3 := (T11).at 3 rfl
  have d4 := (T11).at 4 rfl
  have d5 := (T11).at 5 rfl
  have d6 := (T11).at 6 rfl
  have d7 := (T11).at 7 rfl
  have d8 := (T11).at 8 rfl
  have d9 := (T11).at 9 rfl
  have d10 := (T11).at 10 rfl
  have y0 := (R11).at 0 rfl
  have y1 := (R11).at 1 rfl
  have y2 := (R11).at 2 rfl
  have y3 := (R11).at 3 rfl
  have y4 := (R11).at 4 rfl
  have y5 := (R11).at 5 rfl
  have y6 := (R11).at 6 rfl
  have y7 := (R11).at 7 rfl
  have y8 := (R11).at 8 rfl
  have y9 := (R11).at 9 rfl
  have y10 := (R11).at 10 rfl
  have f0 := Cells.f R11 0
  have f1 := Cells.f R11 1
  have f2 := Cells.f R11 2
  have f3 := Cells.f R11 3
  have f4 := Cells.f R11 4
  have f5 := Cells.f R11 5
  have f6 := Cells.f R11 6
  have f7 := Cells.f R11 7
  have f8 := Cells.f R11 8
  have f9 := Cells.f R11 9
  have f10 := Cells.f R11 10
  clear T11 R11
  go_wp2_with fail
  clear d0 d1 d2 d3 d4 d5 d6 d7 d8 d9 d10
  clear y0 y1 y2 y3 y4 y5 y6 y7 y8 y9 y10
  clear f0 f1 f2 f3 f4 f5 f6 f7 f8 f9 f10
  obtain ⟨g, T, u⟩ := fill11 (.slice p0 2 c0) (.slice (some ⟨bf, 0, none⟩) 2 2) (.slice p2 2 c2') (.slice p3' 3 c3') (.slice p4 1 c4) (.slice p5 1 c5) (.int .i64 1) (.int .i64 1) (.int .i64 0) (.int .i64 0) (.slice p6 0 c6) HR11.out HG.out HB0.out
  have hmf := HMV.out.upd u HO.out.1 (Off.at HBF2.out) HRP.out HOFF.out HO.out.2.2.2.2.1 HO.out.2.2.2.2.2.1 HO.out.2.2.2.2.2.2.1 (fun x hx => by
    obtain rfl : x = _ := List.mem_singleton.1 hx
    exact HO.out.2.2.2.2.2.2.2) (fun x hx => (by cases hx))
  generalize ((((((((((W11.setCell _ _).setCell _ _).setCell _ _).setCell _ _).setCell _ _).setCell _ _).setCell _ _).setCell _ _).setCell _ _).setCell _ _).setCell _ _ = V' at T g hmf ⊢
  have y0 := (T).at 0 rfl
  have y1 := (T).at 1 rfl
  have y2 := (T).at 2 rfl
  have y3 := (T).at 3 rfl
  have y4 := (T).at 4 rfl
  have y5 := (T).at 5 rfl
  have y6 := (T).at 6 rfl
  have y7 := (T).at 7 rfl
  have y8 := (T).at 8 rfl
  have y9 := (T).at 9 rfl
  have y10 := (T).at 10 rfl
  refine bodyPost_ret (by simp [results, Tryz.results16, go_sem, y0, y1, y2, y3, y4, y5, y6, y7, y8, y9, y10]; rfl) rfl ?_
  exact ⟨_, rfl, g, _, q, rfl, hmf⟩
 ·refine wpT_val (v := ?_) (w' := ?_) rfl rfl ?_ ?_ (fun K hK => ?_)
  rotate_left 2
  ·go_simp; first | rfl | (constructor <;> rfl)
  ·exact (Gr.refl _).alloc _
  go_simp
  refine hK _ _ ?_
  clear hK K
  have s8 := SlL.new W7' 58 encMach_len [⟨[109, 49], 1, 10⟩, ⟨[109, 50], 1, 5⟩, ⟨[109, 51], 2, 10⟩] #[.string ⟨#[109, 49]⟩, .int .i64 1, .int .i64 10, .string ⟨#[109, 50]⟩, .int .i64 1, .int .i64 5, .string ⟨#[109, 51]⟩, .int .i64 2, .int .i64 10] 3 rfl rfl (by decide)
  have g8 := s8.1
  have s8 := s8.2
  generalize W7'.heap.size = bk2 at s8 ⊢
  generalize W7'.alloc _ = W8 at s8 g8 ⊢
  refine wpT_val (v := ?_) (w' := ?_) rfl rfl ?_ ?_ (fun K hK => ?_)
  rotate_left 2
  ·go_simp; first | rfl | (constructor <;> rfl)
  ·exact (Gr.refl _).alloc _
  go_simp
  refine hK _ _ ?_
  clear hK K
  have o9 := OwnL.made0 (sz := 3) (enc := encMach) W8 W7.heap.size 58 (g0.trans g8).size
  have g9 : Gr W8 (W8.alloc (.cells #[] 58)) := (Gr.refl _).alloc _
  have s9 := SlL.grow s8 g9
  have g79 := (g0.trans g8).trans g9
  generalize W8.heap.size = be2 at o9 ⊢
  generalize W8.alloc _ = W9 at s9 g79 o9 ⊢
  refine wpT_do rfl rfl (fun K hK => ?_)
  refine wp_appendF _ _ 24 58 _ 32 rfl Tryz.underlying24 mach_info rfl (by decide) encMach_len encMach_one W7.heap.size (some ⟨be2, 0, none⟩) _ [] [⟨[109, 49], 1, 10⟩, ⟨[109, 50], 1, 5⟩, ⟨[109, 51], 2, 10⟩] rfl o9 rfl s9 (by decide) (by decide) g79.size ?_
  intro v10 W10 ho10 g910
  refine ⟨fun _ => g910, hK _ _ ?_⟩
  clear hK K
  have g710 := g79.trans g910
  have ho10 : OwnL W10 W7.heap.size 58 3 encMach v10 [⟨[109, 49], 1, 10⟩, ⟨[109, 50], 1, 5⟩, ⟨[109, 51], 2, 10⟩] := ho10
  obtain ⟨p3', c3', rfl, _, _⟩ := ho10.read.parts
  have g11 := Gr.refl W10
  repeat (refine wpT_readB (v := ?_) g11 rfl rfl (fun w' hg => ?_) (fun K hK => ?_); rotate_left; (go_simp; rfl); go_simp; refine hK _ _ ?_; clear hK K)
  have d3 := (T7.out.grow g710).at 3 rfl
  have f3 := Cells.f (T7.out.grow g710) 3
  refine wpT_do rfl rfl (fun K hK => ?_)
  go_simp
  refine ⟨fun h => Bool.noConfusion h, hK _ _ ?_⟩
  clear hK K
  have hoff3 : Off p3' bm := fun a e => by
   subst e
   intro h
   have := (ho10.lt a.block rfl).1
   have := HBM.out
   omega
  have hoff3r : Off p3' r0 := fun a e => by
   subst e
   intro h
   have := (ho10.lt a.block rfl).1
   have := G7.out.size
   have := T0.out.lt
   omega
  have hu := upd_set W10 bm 3 (.slice p3' 3 c3')
  have hS := SlL.upd (S7.out.grow g710) hu (Off.at HBF.out)
  have hR := SlL.upd (R7.out.grow g710) hu HP2.out
  have hQ := SlL.upd ho10.read hu hoff3
  have hT := (T7.out.grow g710).set 3 (.slice p3' 3 c3')
  have hG := (G7.out.trans g710).set HLT.out (i := 3) (.slice p3' 3 c3')
  clear d3 f3 hu hoff3 ho10 g11 o9 s9 g79 g710 g910
  generalize W10.setCell _ _ = W11 at hS hR hQ hT hG ⊢
  refine wpT_stop ?_
  have HM11 := HM.out.grow hG
  have hmv : MdlAt W11 ⟨p0, c0, some ⟨bf, 0, none⟩, 2, p2, c2', p3', c3', p4, c4, p5, c5, p6, c6⟩ (exM23 q) :=
   ⟨HM11.sites, hS, hR, hQ, HM11.links, HM11.items, HM11.rules, HM11.ons, HM11.mss, by unfold exM23 exM exM0; simp, HM11.onb, HM11.msb⟩
  have T11 : Cells W11 bm #[.slice p0 2 c0, .slice (some ⟨bf, 0, none⟩) 2 2, .slice p2 2 c2', .slice p3' 3 c3', .slice p4 1 c4, .slice p5 1 c5, .int .i64 1, .int .i64 1, .int .i64 0, .int .i64 0, .slice p6 0 c6] := by simpa using hT
  have R11 := T0.out.grow hG
  have HMV := Lib.hid hmv
  have HG := Lib.hid (G.out.trans hG)
  have HR11 := Lib.hid R11
  have HOFF := Lib.hid hoff3r
  clear hS hR hQ hT hG HM11 hmv hoff3r a0 a1 a2 a3 a4 a5 t3 g0 T7 S7 R7
  have d0 := (T11).at 0 rfl
  have d1 := (T11).at 1 rfl
  have d2 := (T11).at 2 rfl
  have d3 := (T11).at 3 rfl
  have d4 := (T11).at 4 rfl
  have d5 := (T11).at 5 rfl
  have d6 := (T11).at 6 rfl
  have d7 := (T11).at 7 rfl
  have d8 := (T11).at 8 rfl
  have d9 := (T11).at 9 rfl
  have d10 := (T11).at 10 rfl
  have y0 := (R11).at 0 rfl
  have y1 := (R11).at 1 rfl
  have y2 := (R11).at 2 rfl
  have y3 := (R11).at 3 rfl
  have y4 := (R11).at 4 rfl
  have y5 := (R11).at 5 rfl
  have y6 := (R11).at 6 rfl
  have y7 := (R11).at 7 rfl
  have y8 := (R11).at 8 rfl
  have y9 := (R11).at 9 rfl
  have y10 := (R11).at 10 rfl
  have f0 := Cells.f R11 0
  have f1 := Cells.f R11 1
  have f2 := Cells.f R11 2
  have f3 := Cells.f R11 3
  have f4 := Cells.f R11 4
  have f5 := Cells.f R11 5
  have f6 := Cells.f R11 6
  have f7 := Cells.f R11 7
  have f8 := Cells.f R11 8
  have f9 := Cells.f R11 9
  have f10 := Cells.f R11 10
  clear T11 R11
  go_wp2_with fail
  clear d0 d1 d2 d3 d4 d5 d6 d7 d8 d9 d10
  clear y0 y1 y2 y3 y4 y5 y6 y7 y8 y9 y10
  clear f0 f1 f2 f3 f4 f5 f6 f7 f8 f9 f10
  obtain ⟨g, T, u⟩ := fill11 (.slice p0 2 c0) (.slice (some ⟨bf, 0, none⟩) 2 2) (.slice p2 2 c2') (.slice p3' 3 c3') (.slice p4 1 c4) (.slice p5 1 c5) (.int .i64 1) (.int .i64 1) (.int .i64 0) (.int .i64 0) (.slice p6 0 c6) HR11.out HG.out HB0.out
  have hmf := HMV.out.upd u HO.out.1 (Off.at HBF2.out) HRP.out HOFF.out HO.out.2.2.2.2.1 HO.out.2.2.2.2.2.1 HO.out.2.2.2.2.2.2.1 (fun x hx => by
    obtain rfl : x = _ := List.mem_singleton.1 hx
    exact HO.out.2.2.2.2.2.2.2) (fun x hx => (by cases hx))
  generalize ((((((((((W11.setCell _ _).setCell _ _).setCell _ _).setCell _ _).setCell _ _).setCell _ _).setCell _ _).setCell _ _).setCell _ _).setCell _ _).setCell _ _ = V' at T g hmf ⊢
  have y0 := (T).at 0 rfl
  have y1 := (T).at 1 rfl
  have y2 := (T).at 2 rfl
  have y3 := (T).at 3 rfl
  have y4 := (T).at 4 rfl
  have y5 := (T).at 5 rfl
  have y6 := (T).at 6 rfl
  have y7 := (T).at 7 rfl
  have y8 := (T).at 8 rfl
  have y9 := (T).at 9 rfl
  have y10 := (T).at 10 rfl
  refine bodyPost_ret (by simp [results, Tryz.results16, go_sem, y0, y1, y2, y3, y4, y5, y6, y7, y8, y9, y10]; rfl) rfl ?_
  exact ⟨_, rfl, g, _, q, rfl, hmf⟩
end Go.Proofs.YtnlocdijdfclcaaGreatDoor
namespace Go.Proofs.YtnlocdijdfclcaaGreatDoor
open Go.RowKit Go.Lib Lex
set_option linter.unusedVariables false
set_option linter.unusedSimpArgs false

theorem ex23Few (q : Option Addr) : Few (exM23 q) := by
 unfold Few exM23 exM exM0
 simp
theorem ex23OK (q : Option Addr) : MdlOK (exM23 q) := by
 refine ⟨⟨⟨by simp [exM23, exM, exM0], by simp [exM23, exM, exM0]⟩, by simp [exM23, exM, exM0], by simp [exM23, exM, exM0], ⟨by simp [exM23, exM, exM0], by simp [exM23, exM, exM0]⟩, by simp [exM23, exM, exM0], ?_, ?_, sound1 ?_⟩, ?_, ?_, ?_, fun x hx => ?_, fun x hx => ?_, ?_, ?_, ?_, ?_⟩
 ·refine sound2 ⟨by unfold Ex exM23 exM exM0; simp, by unfold Ex exM23 exM exM0; simp, fun y hy => by cases hy⟩ ⟨by unfold Ex exM23 exM exM0; simp, by unfold Ex exM23 exM exM0; simp, fun y hy => ?_⟩
  obtain rfl : y = _ := List.mem_singleton.1 hy
  simp
 ·intro i x hx
  match i with
  | 0 => simp [exM23] at hx; subst hx; exact ⟨by unfold Ex exM23; simp, by unfold Amount; simp⟩
  | 1 => simp [exM23] at hx; subst hx; exact ⟨by unfold Ex exM23; simp, by unfold Amount; simp⟩
  | 2 => simp [exM23] at hx; subst hx; exact ⟨by unfold Ex exM23; simp, by unfold Amount; simp⟩
  | n + 3 => simp [exM23] at hx
 ·exact ⟨by simp, by simp, by unfold exM23 exM exM0; simp, by unfold Amount; simp, fun y hy => by cases hy⟩
 ·unfold exM23 exM; simp
 ·unfold exM23 exM exM0; simp
 ·show NamesOK [[97], [98], [102], [103], [114], [115], [109, 49], [109, 50], [109, 51], [100, 98]]
  exact namesOK_of (by decide)
 ·obtain rfl : x = _ := List.mem_singleton.1 hx
  refine ⟨.inl ⟨rfl, .inl rfl, rfl⟩, ⟨by simp, fun i n hn => ?_⟩, by unfold Within; simp, by unfold Within; simp, by unfold Within; simp⟩
  match i with
  | 0 => simp at hn; subst hn; exact ⟨by unfold Ex exM23; simp, fun h => by omega⟩
  | n + 1 => simp at hn
 ·cases hx
 ·unfold Ex exM23 exM exM0; simp
 ·unfold Within exM23 exM exM0; simp
 ·unfold Within exM23 exM exM0; simp
 ·unfold Within exM23 exM exM0; simp
theorem ex23Cands (q : Option Addr) : candsM (exM23 q) = [⟨1, 2, 3⟩] := by kernel_rfl
theorem ex23Fits (q : Option Addr) : fitsM (exM23 q) ⟨1, 2, 3⟩ = true := by kernel_rfl
theorem ex23Val (q : Option Addr) {f : ItemM → Int} {v z : Int} (h : IsVal (exM23 q) ⟨1, 2, 3⟩ f z) (hv : f ⟨[100, 98], 0, 1, 4, 2, 1, q, 1, [2]⟩ = v) : z = v := by
 rcases h with ⟨h, _⟩ | ⟨_, it, hit, rfl⟩
 ·exact absurd ⟨ex23OK q, ex23Fits q⟩ h
 ·obtain rfl : it = _ := (Option.some.inj hit).symm
  exact hv
theorem ex23Text (q : Option Addr) {t : List UInt8} (h : IsText (exM23 q) ⟨1, 2, 3⟩ t) : t = [100, 98, 58, 32, 109, 50, 32, 45, 62, 32, 109, 51] := by
 rcases h with ⟨h, _⟩ | ⟨_, it, hit, rfl⟩
 ·exact absurd ⟨ex23OK q, ex23Fits q⟩ h
 ·obtain rfl : it = _ := (Option.some.inj hit).symm
  kernel_rfl
theorem ex23Src (q : Option Addr) : srcF ⟨1, 2, 3⟩ ⟨[100, 98], 0, 1, 4, 2, 1, q, 1, [2]⟩ = 2 := by kernel_rfl
theorem ex23Dur (q : Option Addr) : durF ⟨1, 2, 3⟩ ⟨[100, 98], 0, 1, 4, 2, 1, q, 1, [2]⟩ = 2 := by kernel_rfl
theorem ex23Link (q : Option Addr) : linkF (exM23 q) ⟨1, 2, 3⟩ ⟨[100, 98], 0, 1, 4, 2, 1, q, 1, [2]⟩ = 1 := by kernel_rfl
theorem ex23Use (q : Option Addr) : useF (exM23 q) ⟨1, 2, 3⟩ ⟨[100, 98], 0, 1, 4, 2, 1, q, 1, [2]⟩ = 1 := by kernel_rfl
set_option maxRecDepth 100000 in
set_option maxHeartbeats 1600000 in
theorem law23_awake (w : World) (ht : Tab w) : Calls Tryz.prog 5 #[] w (Ret w fun r _ => r = .bool true) := by
 have HT := Lib.hid ht
 clear ht
 go_enter Tryz.func5, Tryz.ntmps5
 go_wp2_with fail
 refine (law23_Example w).mono ?_
 rintro _ w1 ⟨_, rfl, g1, P, q, rfl, hm⟩
 have B := Cells.new w1 (mcells P (exM23 q)) 29
 have m0 := mc0 B.2 _ (Gr.refl _)
 have m1 := mc1 B.2 _ (Gr.refl _)
 have m2 := mc2 B.2 _ (Gr.refl _)
 have m3 := mc3 B.2 _ (Gr.refl _)
 have m4 := mc4 B.2 _ (Gr.refl _)
 have m5 := mc5 B.2 _ (Gr.refl _)
 have m6 := mc6 B.2 _ (Gr.refl _)
 have m7 := mc7 B.2 _ (Gr.refl _)
 have m8 := mc8 B.2 _ (Gr.refl _)
 have m9 := mc9 B.2 _ (Gr.refl _)
 have m10 := mc10 B.2 _ (Gr.refl _)
 have H0 := Lib.hid (g1.trans B.1)
 have HM := Lib.hid (hm.grow B.1)
 have TM := Lib.hid B.2
 clear g1 hm B
 generalize hM : exM23 q = M at H0 HM TM m0 m1 m2 m3 m4 m5 m6 m7 m8 m9 m10 ⊢
 have HMM := Lib.hid hM
 clear hM
 unfold mcells at H0 HM TM ⊢
 go_wp2_with fail
 generalize w1.heap.size = bm at TM m0 m1 m2 m3 m4 m5 m6 m7 m8 m9 m10 ⊢
 generalize w1.alloc _ = W at TM HM H0 m0 m1 m2 m3 m4 m5 m6 m7 m8 m9 m10 ⊢
 have TM := Lib.hid (show Cells W bm (mcells P M) from TM.out)
 have G := Lib.hid H0.out
 have HT := Lib.hid (HT.out.grow G.out)
 clear H0
 clear m0 m1 m2 m3 m4 m5 m6 m7 m8 m9 m10
 have hF : Few M := by rw [← HMM.out]; exact ex23Few q
 have hOK : MdlOK M := by rw [← HMM.out]; exact ex23OK q
 have hC : candsM M = [⟨1, 2, 3⟩] := by rw [← HMM.out]; exact ex23Cands q
 have HOK := Lib.hid hOK
 have HF := Lib.hid hF
 have HC := Lib.hid hC
 clear hF hOK hC
 refine (mv_Candidates W P M HM.out HF.out HT.out).mono ?_
 rintro _ w2 ⟨rv, rfl, g1, hc⟩
 have G := Lib.hid (G.out.trans g1)
 have TM := Lib.hid (TM.out.grow g1)
 have HM := Lib.hid (HM.out.grow g1)
 have HT := Lib.hid (HT.out.grow g1)
 clear g1
 have hc3 : ∃ p c, rv = Value.tuple #[.slice p 1 c, .int .i64 0] ∧ MvL w2 (.slice p 1 c) [⟨1, 2, 3⟩] := by
  rcases hc with ⟨h, _⟩ | ⟨_, h, _⟩ | ⟨_, _, p, c, h1, h2⟩
  ·exact absurd HOK.out h
  ·rw [HC.out] at h; exact absurd h (by decide)
  ·rw [HC.out] at h1 h2; exact ⟨p, c, h1, h2⟩
 clear hc
 obtain ⟨p, c, rfl, hl⟩ := hc3
 have HL := Lib.hid hl
 clear hl
 have B := Cells.new w2 #[.int .i64 1, .int .i64 2, .int .i64 3] 34
 have x0 := B.2.at 0 rfl
 have x1 := B.2.at 1 rfl
 have x2 := B.2.at 2 rfl
 have S := SlL.new (w2.alloc (.cells #[.int .i64 1, .int .i64 2, .int .i64 3] 34)) 34 encMv_len [⟨1, 2, 3⟩] #[.int .i64 1, .int .i64 2, .int .i64 3] 1 rfl rfl (by decide)
 simp only [World.size_alloc] at S
 have HS := Lib.hid S.2
 have HX := Lib.hid (B.2.grow S.1)
 have G2 := Lib.hid (B.1.trans S.1)
 clear B S
 go_wp2_with fail
 clear x0 x1 x2
 generalize w2.heap.size + 1 = bs at HS ⊢
 generalize w2.heap.size = bx at HX ⊢
 generalize (w2.alloc _).alloc _ = W3 at HS HX G2 ⊢
 have g1 := G2.out
 clear G2
 have G := Lib.hid (G.out.trans g1)
 have TM := Lib.hid (TM.out.grow g1)
 have HM := Lib.hid (HM.out.grow g1)
 have HT := Lib.hid (HT.out.grow g1)
 have HL := Lib.hid (HL.out.grow g1)
 clear g1
 refine (ref_Same23 W3 p (some ⟨bs, 0, none⟩) c 1 [⟨1, 2, 3⟩] [⟨1, 2, 3⟩] HL.out HS.out (by decide) (by decide)).mono ?_
 rintro _ w4 ⟨rv, rfl, g1, h⟩
 have TX := Lib.hid (show Cells W3 bx (moveV ⟨1, 2, 3⟩) from HX.out)
 have G := Lib.hid (G.out.trans g1)
 have TM := Lib.hid (TM.out.grow g1)
 have HM := Lib.hid (HM.out.grow g1)
 have HT := Lib.hid (HT.out.grow g1)
 have TX := Lib.hid (TX.out.grow g1)
 clear g1
 rcases h.cases with ⟨rfl, _⟩ | ⟨_, k1⟩
 rotate_left
 ·exact absurd rfl k1
 clear h
 have m0 := mc0 TM.out _ (Gr.refl _)
 have m1 := mc1 TM.out _ (Gr.refl _)
 have m2 := mc2 TM.out _ (Gr.refl _)
 have m3 := mc3 TM.out _ (Gr.refl _)
 have m4 := mc4 TM.out _ (Gr.refl _)
 have m5 := mc5 TM.out _ (Gr.refl _)
 have m6 := mc6 TM.out _ (Gr.refl _)
 have m7 := mc7 TM.out _ (Gr.refl _)
 have m8 := mc8 TM.out _ (Gr.refl _)
 have m9 := mc9 TM.out _ (Gr.refl _)
 have m10 := mc10 TM.out _ (Gr.refl _)
 have x0 : World.cell? _ ⟨_, 0, none⟩ = some (.int .i64 1) := (TX.out).at 0 rfl
 have x1 : World.cell? _ ⟨_, 1, none⟩ = some (.int .i64 2) := (TX.out).at 1 rfl
 have x2 : World.cell? _ ⟨_, 2, none⟩ = some (.int .i64 3) := (TX.out).at 2 rfl
 go_wp2_with fail
 clear m0 m1 m2 m3 m4 m5 m6 m7 m8 m9 m10
 clear x0 x1 x2
 refine (mv_Valid w4 P M ⟨1, 2, 3⟩ HM.out HF.out HT.out).mono ?_
 rintro _ w5 ⟨rv, rfl, g1, h⟩
 have G := Lib.hid (G.out.trans g1)
 have TM := Lib.hid (TM.out.grow g1)
 have HM := Lib.hid (HM.out.grow g1)
 have HT := Lib.hid (HT.out.grow g1)
 have TX := Lib.hid (TX.out.grow g1)
 clear g1
 rcases h.cases with ⟨rfl, _⟩ | ⟨_, k1⟩
 rotate_left
 ·exact absurd ⟨HOK.out, by rw [← HMM.out]; exact ex23Fits q⟩ k1
 clear h
 have m0 := mc0 TM.out _ (Gr.refl _)
 have m1 := mc1 TM.out _ (Gr.refl _)
 have m2 := mc2 TM.out _ (Gr.refl _)
 have m3 := mc3 TM.out _ (Gr.refl _)
 have m4 := mc4 TM.out _ (Gr.refl _)
 have m5 := mc5 TM.out _ (Gr.refl _)
 have m6 := mc6 TM.out _ (Gr.refl _)
 have m7 := mc7 TM.out _ (Gr.refl _)
 have m8 := mc8 TM.out _ (Gr.refl _)
 have m9 := mc9 TM.out _ (Gr.refl _)
 have m10 := mc10 TM.out _ (Gr.refl _)
 have x0 : World.cell? _ ⟨_, 0, none⟩ = some (.int .i64 1) := (TX.out).at 0 rfl
 have x1 : World.cell? _ ⟨_, 1, none⟩ = some (.int .i64 2) := (TX.out).at 1 rfl
 have x2 : World.cell? _ ⟨_, 2, none⟩ = some (.int .i64 3) := (TX.out).at 2 rfl
 go_wp2_with fail
 clear m0 m1 m2 m3 m4 m5 m6 m7 m8 m9 m10
 clear x0 x1 x2
 refine (mv_Text w5 P M ⟨1, 2, 3⟩ HM.out HF.out HT.out).mono ?_
 rintro _ w6 ⟨_, rfl, g1, tx, rfl, hz⟩
 have G := Lib.hid (G.out.trans g1)
 have TM := Lib.hid (TM.out.grow g1)
 have HM := Lib.hid (HM.out.grow g1)
 have HT := Lib.hid (HT.out.grow g1)
 have TX := Lib.hid (TX.out.grow g1)
 clear g1
 obtain rfl : tx = [100, 98, 58, 32, 109, 50, 32, 45, 62, 32, 109, 51] := by rw [← HMM.out] at hz; exact ex23Text q hz
 clear hz
 have m0 := mc0 TM.out _ (Gr.refl _)
 have m1 := mc1 TM.out _ (Gr.refl _)
 have m2 := mc2 TM.out _ (Gr.refl _)
 have m3 := mc3 TM.out _ (Gr.refl _)
 have m4 := mc4 TM.out _ (Gr.refl _)
 have m5 := mc5 TM.out _ (Gr.refl _)
 have m6 := mc6 TM.out _ (Gr.refl _)
 have m7 := mc7 TM.out _ (Gr.refl _)
 have m8 := mc8 TM.out _ (Gr.refl _)
 have m9 := mc9 TM.out _ (Gr.refl _)
 have m10 := mc10 TM.out _ (Gr.refl _)
 have x0 : World.cell? _ ⟨_, 0, none⟩ = some (.int .i64 1) := (TX.out).at 0 rfl
 have x1 : World.cell? _ ⟨_, 1, none⟩ = some (.int .i64 2) := (TX.out).at 1 rfl
 have x2 : World.cell? _ ⟨_, 2, none⟩ = some (.int .i64 3) := (TX.out).at 2 rfl
 go_wp2_with fail
 clear m0 m1 m2 m3 m4 m5 m6 m7 m8 m9 m10
 clear x0 x1 x2
 refine (mv_Link w6 P M ⟨1, 2, 3⟩ HM.out HF.out HT.out).mono ?_
 rintro _ w7 ⟨_, rfl, g1, z, rfl, hz⟩
 have G := Lib.hid (G.out.trans g1)
 have TM := Lib.hid (TM.out.grow g1)
 have HM := Lib.hid (HM.out.grow g1)
 have HT := Lib.hid (HT.out.grow g1)
 have TX := Lib.hid (TX.out.grow g1)
 clear g1
 obtain rfl : z = 1 := by rw [← HMM.out] at hz; exact ex23Val q hz (ex23Link q)
 clear hz
 have m0 := mc0 TM.out _ (Gr.refl _)
 have m1 := mc1 TM.out _ (Gr.refl _)
 have m2 := mc2 TM.out _ (Gr.refl _)
 have m3 := mc3 TM.out _ (Gr.refl _)
 have m4 := mc4 TM.out _ (Gr.refl _)
 have m5 := mc5 TM.out _ (Gr.refl _)
 have m6 := mc6 TM.out _ (Gr.refl _)
 have m7 := mc7 TM.out _ (Gr.refl _)
 have m8 := mc8 TM.out _ (Gr.refl _)
 have m9 := mc9 TM.out _ (Gr.refl _)
 have m10 := mc10 TM.out _ (Gr.refl _)
 have x0 : World.cell? _ ⟨_, 0, none⟩ = some (.int .i64 1) := (TX.out).at 0 rfl
 have x1 : World.cell? _ ⟨_, 1, none⟩ = some (.int .i64 2) := (TX.out).at 1 rfl
 have x2 : World.cell? _ ⟨_, 2, none⟩ = some (.int .i64 3) := (TX.out).at 2 rfl
 go_wp2_with fail
 clear m0 m1 m2 m3 m4 m5 m6 m7 m8 m9 m10
 clear x0 x1 x2
 refine (mv_Use w7 P M ⟨1, 2, 3⟩ HM.out HF.out HT.out).mono ?_
 rintro _ w8 ⟨_, rfl, g1, z, rfl, hz⟩
 have G := Lib.hid (G.out.trans g1)
 have TM := Lib.hid (TM.out.grow g1)
 have HM := Lib.hid (HM.out.grow g1)
 have HT := Lib.hid (HT.out.grow g1)
 have TX := Lib.hid (TX.out.grow g1)
 clear g1
 obtain rfl : z = 1 := by rw [← HMM.out] at hz; exact ex23Val q hz (ex23Use q)
 clear hz
 have m0 := mc0 TM.out _ (Gr.refl _)
 have m1 := mc1 TM.out _ (Gr.refl _)
 have m2 := mc2 TM.out _ (Gr.refl _)
 have m3 := mc3 TM.out _ (Gr.refl _)
 have m4 := mc4 TM.out _ (Gr.refl _)
 have m5 := mc5 TM.out _ (Gr.refl _)
 have m6 := mc6 TM.out _ (Gr.refl _)
 have m7 := mc7 TM.out _ (Gr.refl _)
 have m8 := mc8 TM.out _ (Gr.refl _)
 have m9 := mc9 TM.out _ (Gr.refl _)
 have m10 := mc10 TM.out _ (Gr.refl _)
 have x0 : World.cell? _ ⟨_, 0, none⟩ = some (.int .i64 1) := (TX.out).at 0 rfl
 have x1 : World.cell? _ ⟨_, 1, none⟩ = some (.int .i64 2) := (TX.out).at 1 rfl
 have x2 : World.cell? _ ⟨_, 2, none⟩ = some (.int .i64 3) := (TX.out).at 2 rfl
 go_wp2_with fail
 clear m0 m1 m2 m3 m4 m5 m6 m7 m8 m9 m10
 clear x0 x1 x2
 refine (mv_Duration w8 P M ⟨1, 2, 3⟩ HM.out HF.out HT.out).mono ?_
 rintro _ w9 ⟨_, rfl, g1, z, rfl, hz⟩
 have G := Lib.hid (G.out.trans g1)
 have TM := Lib.hid (TM.out.grow g1)
 have HM := Lib.hid (HM.out.grow g1)
 have HT := Lib.hid (HT.out.grow g1)
 have TX := Lib.hid (TX.out.grow g1)
 clear g1
 obtain rfl : z = 2 := by rw [← HMM.out] at hz; exact ex23Val q hz (ex23Dur q)
 clear hz
 have m0 := mc0 TM.out _ (Gr.refl _)
 have m1 := mc1 TM.out _ (Gr.refl _)
 have m2 := mc2 TM.out _ (Gr.refl _)
 have m3 := mc3 TM.out _ (Gr.refl _)
 have m4 := mc4 TM.out _ (Gr.refl _)
 have m5 := mc5 TM.out _ (Gr.refl _)
 have m6 := mc6 TM.out _ (Gr.refl _)
 have m7 := mc7 TM.out _ (Gr.refl _)
 have m8 := mc8 TM.out _ (Gr.refl _)
 have m9 := mc9 TM.out _ (Gr.refl _)
 have m10 := mc10 TM.out _ (Gr.refl _)
 have x0 : World.cell? _ ⟨_, 0, none⟩ = some (.int .i64 1) := (TX.out).at 0 rfl
 have x1 : World.cell? _ ⟨_, 1, none⟩ = some (.int .i64 2) := (TX.out).at 1 rfl
 have x2 : World.cell? _ ⟨_, 2, none⟩ = some (.int .i64 3) := (TX.out).at 2 rfl
 go_wp2_with fail
 clear m0 m1 m2 m3 m4 m5 m6 m7 m8 m9 m10
 clear x0 x1 x2
 refine (mv_Source w9 P M ⟨1, 2, 3⟩ HM.out HF.out HT.out).mono ?_
 rintro _ w10 ⟨_, rfl, g1, z, rfl, hz⟩
 have G := Lib.hid (G.out.trans g1)
 have TM := Lib.hid (TM.out.grow g1)
 have HM := Lib.hid (HM.out.grow g1)
 have HT := Lib.hid (HT.out.grow g1)
 have TX := Lib.hid (TX.out.grow g1)
 clear g1
 obtain rfl : z = 2 := by rw [← HMM.out] at hz; exact ex23Val q hz (ex23Src q)
 clear hz
 have x0 : World.cell? _ ⟨_, 0, none⟩ = some (.int .i64 1) := (TX.out).at 0 rfl
 have x1 : World.cell? _ ⟨_, 1, none⟩ = some (.int .i64 2) := (TX.out).at 1 rfl
 have x2 : World.cell? _ ⟨_, 2, none⟩ = some (.int .i64 3) := (TX.out).at 2 rfl
 go_wp2_with fail
 clear x0 x1 x2
 refine (mv_Compare w10 ⟨1, 2, 3⟩ ⟨0, 0, 0⟩).mono ?_
 rintro _ w11 ⟨_, rfl, g1, rfl⟩
 have G := Lib.hid (G.out.trans g1)
 have TM := Lib.hid (TM.out.grow g1)
 have HM := Lib.hid (HM.out.grow g1)
 have HT := Lib.hid (HT.out.grow g1)
 have TX := Lib.hid (TX.out.grow g1)
 clear g1
 rw [show cmpMv ⟨1, 2, 3⟩ ⟨0, 0, 0⟩ = 1 from rfl]
 go_wp2_with fail
 go_ret
 exact ⟨_, rfl, G.out, rfl⟩
end Go.Proofs.YtnlocdijdfclcaaGreatDoor

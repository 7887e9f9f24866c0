/-
  Fractions: boxes of a frame, the denominator, the only form.
-/
import Derived.Test.YtmcgkglmlfbijaaGreatDoorRatA
namespace Go.Proofs.YtmcgkglmlfbijaaGreatDoor
open Go.RowKit Go.Lib
set_option linter.unusedVariables false
set_option linter.unusedSimpArgs false

theorem box2 (w : World) (x y : Value) (t : TypeId) : Gr w (w.alloc (.cells #[x, y] t)) ∧ Two (w.alloc (.cells #[x, y] t)) w.heap.size x y := boxed1 w x y t
theorem box3 (w : World) (x y z : Value) (t : TypeId) : Gr w (w.alloc (.cells #[x, y, z] t)) ∧ Three (w.alloc (.cells #[x, y, z] t)) w.heap.size x y z :=
  ⟨(Gr.refl w).alloc _, Three.new w x y z t⟩
theorem box22 (w : World) (x00 x01 x10 x11 : Value) (t0 t1 : TypeId) : Gr w ((w.alloc (.cells #[x00, x01] t0)).alloc (.cells #[x10, x11] t1)) ∧ Two ((w.alloc (.cells #[x00, x01] t0)).alloc (.cells #[x10, x11] t1)) (w.heap.size) x00 x01 ∧ Two ((w.alloc (.cells #[x00, x01] t0)).alloc (.cells #[x10, x11] t1)) (w.heap.size + 1) x10 x11 := by
  obtain ⟨g, h0⟩ := box2 w x00 x01 t0
  obtain ⟨g', h'⟩ := box2 (w.alloc (.cells #[x00, x01] t0)) x10 x11 t1
  rw [World.size_alloc] at h'
  exact ⟨g.trans g', h0.grow g', h'⟩
theorem box23 (w : World) (x00 x01 x10 x11 x12 : Value) (t0 t1 : TypeId) : Gr w ((w.alloc (.cells #[x00, x01] t0)).alloc (.cells #[x10, x11, x12] t1)) ∧ Two ((w.alloc (.cells #[x00, x01] t0)).alloc (.cells #[x10, x11, x12] t1)) (w.heap.size) x00 x01 ∧ Three ((w.alloc (.cells #[x00, x01] t0)).alloc (.cells #[x10, x11, x12] t1)) (w.heap.size + 1) x10 x11 x12 := by
  obtain ⟨g, h0⟩ := box2 w x00 x01 t0
  obtain ⟨g', h'⟩ := box3 (w.alloc (.cells #[x00, x01] t0)) x10 x11 x12 t1
  rw [World.size_alloc] at h'
  exact ⟨g.trans g', h0.grow g', h'⟩
theorem box32 (w : World) (x00 x01 x02 x10 x11 : Value) (t0 t1 : TypeId) : Gr w ((w.alloc (.cells #[x00, x01, x02] t0)).alloc (.cells #[x10, x11] t1)) ∧ Three ((w.alloc (.cells #[x00, x01, x02] t0)).alloc (.cells #[x10, x11] t1)) (w.heap.size) x00 x01 x02 ∧ Two ((w.alloc (.cells #[x00, x01, x02] t0)).alloc (.cells #[x10, x11] t1)) (w.heap.size + 1) x10 x11 := by
  obtain ⟨g, h0⟩ := box3 w x00 x01 x02 t0
  obtain ⟨g', h'⟩ := box2 (w.alloc (.cells #[x00, x01, x02] t0)) x10 x11 t1
  rw [World.size_alloc] at h'
  exact ⟨g.trans g', h0.grow g', h'⟩
theorem box33 (w : World) (x00 x01 x02 x10 x11 x12 : Value) (t0 t1 : TypeId) : Gr w ((w.alloc (.cells #[x00, x01, x02] t0)).alloc (.cells #[x10, x11, x12] t1)) ∧ Three ((w.alloc (.cells #[x00, x01, x02] t0)).alloc (.cells #[x10, x11, x12] t1)) (w.heap.size) x00 x01 x02 ∧ Three ((w.alloc (.cells #[x00, x01, x02] t0)).alloc (.cells #[x10, x11, x12] t1)) (w.heap.size + 1) x10 x11 x12 := by
  obtain ⟨g, h0⟩ := box3 w x00 x01 x02 t0
  obtain ⟨g', h'⟩ := box3 (w.alloc (.cells #[x00, x01, x02] t0)) x10 x11 x12 t1
  rw [World.size_alloc] at h'
  exact ⟨g.trans g', h0.grow g', h'⟩
theorem box222 (w : World) (x00 x01 x10 x11 x20 x21 : Value) (t0 t1 t2 : TypeId) : Gr w (((w.alloc (.cells #[x00, x01] t0)).alloc (.cells #[x10, x11] t1)).alloc (.cells #[x20, x21] t2)) ∧ Two (((w.alloc (.cells #[x00, x01] t0)).alloc (.cells #[x10, x11] t1)).alloc (.cells #[x20, x21] t2)) (w.heap.size) x00 x01 ∧ Two (((w.alloc (.cells #[x00, x01] t0)).alloc (.cells #[x10, x11] t1)).alloc (.cells #[x20, x21] t2)) (w.heap.size + 1) x10 x11 ∧ Two (((w.alloc (.cells #[x00, x01] t0)).alloc (.cells #[x10, x11] t1)).alloc (.cells #[x20, x21] t2)) (w.heap.size + 1 + 1) x20 x21 := by
  obtain ⟨g, h0, h1⟩ := box22 w x00 x01 x10 x11 t0 t1
  obtain ⟨g', h'⟩ := box2 ((w.alloc (.cells #[x00, x01] t0)).alloc (.cells #[x10, x11] t1)) x20 x21 t2
  rw [World.size_alloc, World.size_alloc] at h'
  exact ⟨g.trans g', h0.grow g', h1.grow g', h'⟩
theorem box223 (w : World) (x00 x01 x10 x11 x20 x21 x22 : Value) (t0 t1 t2 : TypeId) : Gr w (((w.alloc (.cells #[x00, x01] t0)).alloc (.cells #[x10, x11] t1)).alloc (.cells #[x20, x21, x22] t2)) ∧ Two (((w.alloc (.cells #[x00, x01] t0)).alloc (.cells #[x10, x11] t1)).alloc (.cells #[x20, x21, x22] t2)) (w.heap.size) x00 x01 ∧ Two (((w.alloc (.cells #[x00, x01] t0)).alloc (.cells #[x10, x11] t1)).alloc (.cells #[x20, x21, x22] t2)) (w.heap.size + 1) x10 x11 ∧ Three (((w.alloc (.cells #[x00, x01] t0)).alloc (.cells #[x10, x11] t1)).alloc (.cells #[x20, x21, x22] t2)) (w.heap.size + 1 + 1) x20 x21 x22 := by
  obtain ⟨g, h0, h1⟩ := box22 w x00 x01 x10 x11 t0 t1
  obtain ⟨g', h'⟩ := box3 ((w.alloc (.cells #[x00, x01] t0)).alloc (.cells #[x10, x11] t1)) x20 x21 x22 t2
  rw [World.size_alloc, World.size_alloc] at h'
  exact ⟨g.trans g', h0.grow g', h1.grow g', h'⟩
theorem box333 (w : World) (x00 x01 x02 x10 x11 x12 x20 x21 x22 : Value) (t0 t1 t2 : TypeId) : Gr w (((w.alloc (.cells #[x00, x01, x02] t0)).alloc (.cells #[x10, x11, x12] t1)).alloc (.cells #[x20, x21, x22] t2)) ∧ Three (((w.alloc (.cells #[x00, x01, x02] t0)).alloc (.cells #[x10, x11, x12] t1)).alloc (.cells #[x20, x21, x22] t2)) (w.heap.size) x00 x01 x02 ∧ Three (((w.alloc (.cells #[x00, x01, x02] t0)).alloc (.cells #[x10, x11, x12] t1)).alloc (.cells #[x20, x21, x22] t2)) (w.heap.size + 1) x10 x11 x12 ∧ Three (((w.alloc (.cells #[x00, x01, x02] t0)).alloc (.cells #[x10, x11, x12] t1)).alloc (.cells #[x20, x21, x22] t2)) (w.heap.size + 1 + 1) x20 x21 x22 := by
  obtain ⟨g, h0, h1⟩ := box33 w x00 x01 x02 x10 x11 x12 t0 t1
  obtain ⟨g', h'⟩ := box3 ((w.alloc (.cells #[x00, x01, x02] t0)).alloc (.cells #[x10, x11, x12] t1)) x20 x21 x22 t2
  rw [World.size_alloc, World.size_alloc] at h'
  exact ⟨g.trans g', h0.grow g', h1.grow g', h'⟩
theorem box2222 (w : World) (x00 x01 x10 x11 x20 x21 x30 x31 : Value) (t0 t1 t2 t3 : TypeId) : Gr w ((((w.alloc (.cells #[x00, x01] t0)).alloc (.cells #[x10, x11] t1)).alloc (.cells #[x20, x21] t2)).alloc (.cells #[x30, x31] t3)) ∧ Two ((((w.alloc (.cells #[x00, x01] t0)).alloc (.cells #[x10, x11] t1)).alloc (.cells #[x20, x21] t2)).alloc (.cells #[x30, x31] t3)) (w.heap.size) x00 x01 ∧ Two ((((w.alloc (.cells #[x00, x01] t0)).alloc (.cells #[x10, x11] t1)).alloc (.cells #[x20, x21] t2)).alloc (.cells #[x30, x31] t3)) (w.heap.size + 1) x10 x11 ∧ Two ((((w.alloc (.cells #[x00, x01] t0)).alloc (.cells #[x10, x11] t1)).alloc (.cells #[x20, x21] t2)).alloc (.cells #[x30, x31] t3)) (w.heap.size + 1 + 1) x20 x21 ∧ Two ((((w.alloc (.cells #[x00, x01] t0)).alloc (.cells #[x10, x11] t1)).alloc (.cells #[x20, x21] t2)).alloc (.cells #[x30, x31] t3)) (w.heap.size + 1 + 1 + 1) x30 x31 := by
  obtain ⟨g, h0, h1, h2⟩ := box222 w x00 x01 x10 x11 x20 x21 t0 t1 t2
  obtain ⟨g', h'⟩ := box2 (((w.alloc (.cells #[x00, x01] t0)).alloc (.cells #[x10, x11] t1)).alloc (.cells #[x20, x21] t2)) x30 x31 t3
  rw [World.size_alloc, World.size_alloc, World.size_alloc] at h'
  exact ⟨g.trans g', h0.grow g', h1.grow g', h2.grow g', h'⟩
theorem box22222 (w : World) (x00 x01 x10 x11 x20 x21 x30 x31 x40 x41 : Value) (t0 t1 t2 t3 t4 : TypeId) : Gr w (((((w.alloc (.cells #[x00, x01] t0)).alloc (.cells #[x10, x11] t1)).alloc (.cells #[x20, x21] t2)).alloc (.cells #[x30, x31] t3)).alloc (.cells #[x40, x41] t4)) ∧ Two (((((w.alloc (.cells #[x00, x01] t0)).alloc (.cells #[x10, x11] t1)).alloc (.cells #[x20, x21] t2)).alloc (.cells #[x30, x31] t3)).alloc (.cells #[x40, x41] t4)) (w.heap.size) x00 x01 ∧ Two (((((w.alloc (.cells #[x00, x01] t0)).alloc (.cells #[x10, x11] t1)).alloc (.cells #[x20, x21] t2)).alloc (.cells #[x30, x31] t3)).alloc (.cells #[x40, x41] t4)) (w.heap.size + 1) x10 x11 ∧ Two (((((w.alloc (.cells #[x00, x01] t0)).alloc (.cells #[x10, x11] t1)).alloc (.cells #[x20, x21] t2)).alloc (.cells #[x30, x31] t3)).alloc (.cells #[x40, x41] t4)) (w.heap.size + 1 + 1) x20 x21 ∧ Two (((((w.alloc (.cells #[x00, x01] t0)).alloc (.cells #[x10, x11] t1)).alloc (.cells #[x20, x21] t2)).alloc (.cells #[x30, x31] t3)).alloc (.cells #[x40, x41] t4)) (w.heap.size + 1 + 1 + 1) x30 x31 ∧ Two (((((w.alloc (.cells #[x00, x01] t0)).alloc (.cells #[x10, x11] t1)).alloc (.cells #[x20, x21] t2)).alloc (.cells #[x30, x31] t3)).alloc (.cells #[x40, x41] t4)) (w.heap.size + 1 + 1 + 1 + 1) x40 x41 := by
  obtain ⟨g, h0, h1, h2, h3⟩ := box2222 w x00 x01 x10 x11 x20 x21 x30 x31 t0 t1 t2 t3
  obtain ⟨g', h'⟩ := box2 ((((w.alloc (.cells #[x00, x01] t0)).alloc (.cells #[x10, x11] t1)).alloc (.cells #[x20, x21] t2)).alloc (.cells #[x30, x31] t3)) x40 x41 t4
  rw [World.size_alloc, World.size_alloc, World.size_alloc, World.size_alloc] at h'
  exact ⟨g.trans g', h0.grow g', h1.grow g', h2.grow g', h3.grow g', h'⟩
theorem box222222 (w : World) (x00 x01 x10 x11 x20 x21 x30 x31 x40 x41 x50 x51 : Value) (t0 t1 t2 t3 t4 t5 : TypeId) : Gr w ((((((w.alloc (.cells #[x00, x01] t0)).alloc (.cells #[x10, x11] t1)).alloc (.cells #[x20, x21] t2)).alloc (.cells #[x30, x31] t3)).alloc (.cells #[x40, x41] t4)).alloc (.cells #[x50, x51] t5)) ∧ Two ((((((w.alloc (.cells #[x00, x01] t0)).alloc (.cells #[x10, x11] t1)).alloc (.cells #[x20, x21] t2)).alloc (.cells #[x30, x31] t3)).alloc (.cells #[x40, x41] t4)).alloc (.cells #[x50, x51] t5)) (w.heap.size) x00 x01 ∧ Two ((((((w.alloc (.cells #[x00, x01] t0)).alloc (.cells #[x10, x11] t1)).alloc (.cells #[x20, x21] t2)).alloc (.cells #[x30, x31] t3)).alloc (.cells #[x40, x41] t4)).alloc (.cells #[x50, x51] t5)) (w.heap.size + 1) x10 x11 ∧ Two ((((((w.alloc (.cells #[x00, x01] t0)).alloc (.cells #[x10, x11] t1)).alloc (.cells #[x20, x21] t2)).alloc (.cells #[x30, x31] t3)).alloc (.cells #[x40, x41] t4)).alloc (.cells #[x50, x51] t5)) (w.heap.size + 1 + 1) x20 x21 ∧ Two ((((((w.alloc (.cells #[x00, x01] t0)).alloc (.cells #[x10, x11] t1)).alloc (.cells #[x20, x21] t2)).alloc (.cells #[x30, x31] t3)).alloc (.cells #[x40, x41] t4)).alloc (.cells #[x50, x51] t5)) (w.heap.size + 1 + 1 + 1) x30 x31 ∧ Two ((((((w.alloc (.cells #[x00, x01] t0)).alloc (.cells #[x10, x11] t1)).alloc (.cells #[x20, x21] t2)).alloc (.cells #[x30, x31] t3)).alloc (.cells #[x40, x41] t4)).alloc (.cells #[x50, x51] t5)) (w.heap.size + 1 + 1 + 1 + 1) x40 x41 ∧ Two ((((((w.alloc (.cells #[x00, x01] t0)).alloc (.cells #[x10, x11] t1)).alloc (.cells #[x20, x21] t2)).alloc (.cells #[x30, x31] t3)).alloc (.cells #[x40, x41] t4)).alloc (.cells #[x50, x51] t5)) (w.heap.size + 1 + 1 + 1 + 1 + 1) x50 x51 := by
  obtain ⟨g, h0, h1, h2, h3, h4⟩ := box22222 w x00 x01 x10 x11 x20 x21 x30 x31 x40 x41 t0 t1 t2 t3 t4
  obtain ⟨g', h'⟩ := box2 (((((w.alloc (.cells #[x00, x01] t0)).alloc (.cells #[x10, x11] t1)).alloc (.cells #[x20, x21] t2)).alloc (.cells #[x30, x31] t3)).alloc (.cells #[x40, x41] t4)) x50 x51 t5
  rw [World.size_alloc, World.size_alloc, World.size_alloc, World.size_alloc, World.size_alloc] at h'
  exact ⟨g.trans g', h0.grow g', h1.grow g', h2.grow g', h3.grow g', h4.grow g', h'⟩
theorem box322 (w : World) (x00 x01 x02 x10 x11 x20 x21 : Value) (t0 t1 t2 : TypeId) : Gr w (((w.alloc (.cells #[x00, x01, x02] t0)).alloc (.cells #[x10, x11] t1)).alloc (.cells #[x20, x21] t2)) ∧ Three (((w.alloc (.cells #[x00, x01, x02] t0)).alloc (.cells #[x10, x11] t1)).alloc (.cells #[x20, x21] t2)) (w.heap.size) x00 x01 x02 ∧ Two (((w.alloc (.cells #[x00, x01, x02] t0)).alloc (.cells #[x10, x11] t1)).alloc (.cells #[x20, x21] t2)) (w.heap.size + 1) x10 x11 ∧ Two (((w.alloc (.cells #[x00, x01, x02] t0)).alloc (.cells #[x10, x11] t1)).alloc (.cells #[x20, x21] t2)) (w.heap.size + 1 + 1) x20 x21 := by
  obtain ⟨g, h0, h1⟩ := box32 w x00 x01 x02 x10 x11 t0 t1
  obtain ⟨g', h'⟩ := box2 ((w.alloc (.cells #[x00, x01, x02] t0)).alloc (.cells #[x10, x11] t1)) x20 x21 t2
  rw [World.size_alloc, World.size_alloc] at h'
  exact ⟨g.trans g', h0.grow g', h1.grow g', h'⟩
theorem box332 (w : World) (x00 x01 x02 x10 x11 x12 x20 x21 : Value) (t0 t1 t2 : TypeId) : Gr w (((w.alloc (.cells #[x00, x01, x02] t0)).alloc (.cells #[x10, x11, x12] t1)).alloc (.cells #[x20, x21] t2)) ∧ Three (((w.alloc (.cells #[x00, x01, x02] t0)).alloc (.cells #[x10, x11, x12] t1)).alloc (.cells #[x20, x21] t2)) (w.heap.size) x00 x01 x02 ∧ Three (((w.alloc (.cells #[x00, x01, x02] t0)).alloc (.cells #[x10, x11, x12] t1)).alloc (.cells #[x20, x21] t2)) (w.heap.size + 1) x10 x11 x12 ∧ Two (((w.alloc (.cells #[x00, x01, x02] t0)).alloc (.cells #[x10, x11, x12] t1)).alloc (.cells #[x20, x21] t2)) (w.heap.size + 1 + 1) x20 x21 := by
  obtain ⟨g, h0, h1⟩ := box33 w x00 x01 x02 x10 x11 x12 t0 t1
  obtain ⟨g', h'⟩ := box2 ((w.alloc (.cells #[x00, x01, x02] t0)).alloc (.cells #[x10, x11, x12] t1)) x20 x21 t2
  rw [World.size_alloc, World.size_alloc] at h'
  exact ⟨g.trans g', h0.grow g', h1.grow g', h'⟩
theorem box232 (w : World) (x00 x01 x10 x11 x12 x20 x21 : Value) (t0 t1 t2 : TypeId) : Gr w (((w.alloc (.cells #[x00, x01] t0)).alloc (.cells #[x10, x11, x12] t1)).alloc (.cells #[x20, x21] t2)) ∧ Two (((w.alloc (.cells #[x00, x01] t0)).alloc (.cells #[x10, x11, x12] t1)).alloc (.cells #[x20, x21] t2)) (w.heap.size) x00 x01 ∧ Three (((w.alloc (.cells #[x00, x01] t0)).alloc (.cells #[x10, x11, x12] t1)).alloc (.cells #[x20, x21] t2)) (w.heap.size + 1) x10 x11 x12 ∧ Two (((w.alloc (.cells #[x00, x01] t0)).alloc (.cells #[x10, x11, x12] t1)).alloc (.cells #[x20, x21] t2)) (w.heap.size + 1 + 1) x20 x21 := by
  obtain ⟨g, h0, h1⟩ := box23 w x00 x01 x10 x11 x12 t0 t1
  obtain ⟨g', h'⟩ := box2 ((w.alloc (.cells #[x00, x01] t0)).alloc (.cells #[x10, x11, x12] t1)) x20 x21 t2
  rw [World.size_alloc, World.size_alloc] at h'
  exact ⟨g.trans g', h0.grow g', h1.grow g', h'⟩
theorem box3332 (w : World) (x00 x01 x02 x10 x11 x12 x20 x21 x22 x30 x31 : Value) (t0 t1 t2 t3 : TypeId) : Gr w ((((w.alloc (.cells #[x00, x01, x02] t0)).alloc (.cells #[x10, x11, x12] t1)).alloc (.cells #[x20, x21, x22] t2)).alloc (.cells #[x30, x31] t3)) ∧ Three ((((w.alloc (.cells #[x00, x01, x02] t0)).alloc (.cells #[x10, x11, x12] t1)).alloc (.cells #[x20, x21, x22] t2)).alloc (.cells #[x30, x31] t3)) (w.heap.size) x00 x01 x02 ∧ Three ((((w.alloc (.cells #[x00, x01, x02] t0)).alloc (.cells #[x10, x11, x12] t1)).alloc (.cells #[x20, x21, x22] t2)).alloc (.cells #[x30, x31] t3)) (w.heap.size + 1) x10 x11 x12 ∧ Three ((((w.alloc (.cells #[x00, x01, x02] t0)).alloc (.cells #[x10, x11, x12] t1)).alloc (.cells #[x20, x21, x22] t2)).alloc (.cells #[x30, x31] t3)) (w.heap.size + 1 + 1) x20 x21 x22 ∧ Two ((((w.alloc (.cells #[x00, x01, x02] t0)).alloc (.cells #[x10, x11, x12] t1)).alloc (.cells #[x20, x21, x22] t2)).alloc (.cells #[x30, x31] t3)) (w.heap.size + 1 + 1 + 1) x30 x31 := by
  obtain ⟨g, h0, h1, h2⟩ := box333 w x00 x01 x02 x10 x11 x12 x20 x21 x22 t0 t1 t2
  obtain ⟨g', h'⟩ := box2 (((w.alloc (.cells #[x00, x01, x02] t0)).alloc (.cells #[x10, x11, x12] t1)).alloc (.cells #[x20, x21, x22] t2)) x30 x31 t3
  rw [World.size_alloc, World.size_alloc, World.size_alloc] at h'
  exact ⟨g.trans g', h0.grow g', h1.grow g', h2.grow g', h'⟩
theorem box3333 (w : World) (x00 x01 x02 x10 x11 x12 x20 x21 x22 x30 x31 x32 : Value) (t0 t1 t2 t3 : TypeId) : Gr w ((((w.alloc (.cells #[x00, x01, x02] t0)).alloc (.cells #[x10, x11, x12] t1)).alloc (.cells #[x20, x21, x22] t2)).alloc (.cells #[x30, x31, x32] t3)) ∧ Three ((((w.alloc (.cells #[x00, x01, x02] t0)).alloc (.cells #[x10, x11, x12] t1)).alloc (.cells #[x20, x21, x22] t2)).alloc (.cells #[x30, x31, x32] t3)) (w.heap.size) x00 x01 x02 ∧ Three ((((w.alloc (.cells #[x00, x01, x02] t0)).alloc (.cells #[x10, x11, x12] t1)).alloc (.cells #[x20, x21, x22] t2)).alloc (.cells #[x30, x31, x32] t3)) (w.heap.size + 1) x10 x11 x12 ∧ Three ((((w.alloc (.cells #[x00, x01, x02] t0)).alloc (.cells #[x10, x11, x12] t1)).alloc (.cells #[x20, x21, x22] t2)).alloc (.cells #[x30, x31, x32] t3)) (w.heap.size + 1 + 1) x20 x21 x22 ∧ Three ((((w.alloc (.cells #[x00, x01, x02] t0)).alloc (.cells #[x10, x11, x12] t1)).alloc (.cells #[x20, x21, x22] t2)).alloc (.cells #[x30, x31, x32] t3)) (w.heap.size + 1 + 1 + 1) x30 x31 x32 := by
  obtain ⟨g, h0, h1, h2⟩ := box333 w x00 x01 x02 x10 x11 x12 x20 x21 x22 t0 t1 t2
  obtain ⟨g', h'⟩ := box3 (((w.alloc (.cells #[x00, x01, x02] t0)).alloc (.cells #[x10, x11, x12] t1)).alloc (.cells #[x20, x21, x22] t2)) x30 x31 x32 t3
  rw [World.size_alloc, World.size_alloc, World.size_alloc] at h'
  exact ⟨g.trans g', h0.grow g', h1.grow g', h2.grow g', h'⟩

theorem Gr.three' {a w : World} (g : Gr a w) {b : Nat} (hb : ¬ b < a.heap.size) (u v s : Value) : Gr a (((w.setCell ⟨b, 0, none⟩ u).setCell ⟨b, 1, none⟩ v).setCell ⟨b, 2, none⟩ s) := g.three hb u v s
/-- the end of a function whose result is an integer in a box of its own -/
theorem ret_intB {w w3 : World} {z : Int} {L b : Nat} {s sg : Bool} {p p3 : Option Addr} {k c k3 c3 : Nat} (hb : ¬ b < w.heap.size) (g : Gr w w3) (t : Two w3 b (.bool s) (.slice p k c))
    (h : IntV w3 (.agg #[.bool sg, .slice p3 k3 c3]) z L) :
    Ret w (fun r w' => IntV w' r z L) (.returned (.agg #[.bool sg, .slice p3 k3 c3])) ((w3.setCell ⟨b, 0, none⟩ (.bool sg)).setCell ⟨b, 1, none⟩ (.slice p3 k3 c3)) :=
  ⟨_, rfl, g.two hb _ _, h.upd t.noInt (upd2 _ _ _ _)⟩

theorem IntV.nat' {w : World} {s : Bool} {p : Option Addr} {k c L : Nat} {z : Int} (h : IntV w (.agg #[.bool s, .slice p k c]) z L) : ∃ l, NatL w (.slice p k c) l ∧ nval l = z.natAbs ∧ l.length ≤ L := by
  obtain ⟨n, l, ⟨p', k', c', e, h⟩, rfl, h3⟩ := h
  simp only [Value.agg.injEq, Array.mk.injEq, List.cons.injEq, Value.bool.injEq, Value.slice.injEq, and_true] at e
  obtain ⟨rfl, rfl, rfl, rfl⟩ := e
  exact ⟨l, h, by rw [zval_natAbs], h3⟩
theorem IntV.agg {w : World} {v : Value} {z : Int} {L : Nat} (h : IntV w v z L) : ∃ s p k c, v = .agg #[.bool s, .slice p k c] := by
  obtain ⟨n, l, ⟨p', k', c', e, h⟩, rfl, h3⟩ := h
  exact ⟨_, _, _, _, e⟩
theorem IntC.agg {w : World} {v : Value} {z : Int} (h : IntC w v z) : ∃ p k c, v = .agg #[.bool (decide (z < 0)), .slice p k c] := by
  obtain ⟨p', k', c', e, h⟩ := h
  exact ⟨_, _, _, e⟩
theorem IntC.mag {w : World} {s : Bool} {p : Option Addr} {k c : Nat} {z : Int} (h : IntC w (.agg #[.bool s, .slice p k c]) z) : NatL w (.slice p k c) (digs z.natAbs) := by
  obtain ⟨p', k', c', e, h⟩ := h
  simp only [Value.agg.injEq, Array.mk.injEq, List.cons.injEq, Value.bool.injEq, Value.slice.injEq, and_true] at e
  obtain ⟨-, rfl, rfl, rfl⟩ := e
  exact h
theorem denV_zero {d : List Nat} (h : bitsN (nval d) = 0) : denV d = 1 := by
  unfold denV
  rw [if_pos]
  rcases Nat.eq_zero_or_pos (nval d) with h0 | h0
  · exact h0
  · have := bitsN_pos (n := nval d) (by omega); omega
theorem denV_pos {d : List Nat} (h : bitsN (nval d) ≠ 0) : denV d = nval d := by
  unfold denV
  rw [if_neg]
  intro h0
  rw [h0, bitsN_zero] at h
  exact h rfl

set_option maxRecDepth 100000 in
set_option maxHeartbeats 800000 in
theorem rat_den (w : World) (va : Value) (n : Bool) (l d : List Nat) (L : Nat) (ha : RatL w va n l d) (hd : d.length ≤ L) (hL : L ≤ 1000000) :
    Calls Tryz.prog 50 #[va] w (Ret w fun r w' => IntV w' r (denV d : Int) (L + 1)) := by
  obtain ⟨p, k, c, q, m, e, rfl, h1, h2⟩ := ha
  have HD := Lib.hid h2
  clear h1 h2
  have B := box32 w (.bool n) (.slice p k c) (.slice q m e) (.bool false) (.slice none 0 0) 27 25
  have Hb1 := Lib.hid (show ¬ w.heap.size + 1 < w.heap.size by omega)
  have Hd01 := Lib.hid (show w.heap.size ≠ w.heap.size + 1 by omega)
  go_enter Tryz.func50, Tryz.ntmps50
  go_wp2_with fail
  generalize (w.alloc _).alloc _ = W at B ⊢
  obtain ⟨G0, t0, t1⟩ := B
  generalize w.heap.size + 1 = b1 at t1 Hb1 Hd01 ⊢
  generalize hb0 : w.heap.size = b0 at t0 Hd01 ⊢
  have Hb0 := Lib.hid (show ¬ b0 < w.heap.size by omega)
  have G := Lib.hid G0
  have T0 := Lib.hid t0
  have T1 := Lib.hid t1
  clear hb0 G0 t0 t1
  have HD := Lib.hid (HD.out.grow G.out)
  refine (nat_Bits W _ d HD.out (by omega)).mono ?_
  rintro _ _ ⟨rfl, rfl⟩
  obtain ⟨B0, hB0⟩ : ∃ B0, bitsN (nval d) = B0 := ⟨_, rfl⟩
  have HB0 := Lib.hid hB0
  rw [hB0]
  clear hB0
  by_cases h0 : B0 = 0
  · subst h0
    go_wp2_with fail
    refine (int_From W 1 (by decide) (by decide)).mono ?_
    rintro _ w2 ⟨r, rfl, g2, hr⟩
    obtain ⟨p2, k2, c2, rfl⟩ := hr.agg
    have RR := Lib.hid (ret_intB Hb1.out (G.out.trans g2) (T1.out.grow g2) (L := L + 1) (by rw [denV_zero HB0.out]; exact hr.v (Nat.le_trans (len_one 1 (by decide) (by decide)) (Nat.le_add_left _ _)) : IntV w2 _ (denV d : Int) (L + 1)))
    have G := Lib.hid (G.out.trans g2)
    have T0 := Lib.hid (T0.out.grow g2)
    have T1 := Lib.hid (T1.out.grow g2)
    have HD := Lib.hid (HD.out.grow g2)
    clear g2
    have T1_0 := T1.out.load.1
    have T1_f0 := T1.out.f0 0
    have T1_1 := T1.out.load.2
    have T1_f1 := T1.out.f0 1
    go_wp2_with fail
    refine bodyPost_ret (by simp [results, Tryz.results50, go_sem, T1_0, T1_1]; rfl) rfl ?_
    exact RR.out
  · have hne : ¬ (B0 : Int) = 0 := by omega
    have RR := Lib.hid (ret_intB Hb1.out G.out T1.out (L := L + 1) (by rw [denV_pos (by rw [HB0.out]; exact h0)]; exact IntV.nat HD.out (Nat.le_succ_of_le hd) : IntV W _ (denV d : Int) (L + 1)))
    have T0_0 := T0.out.load.1
    have T0_f0 := T0.out.f0 0
    have T0_1 := T0.out.load.2.1
    have T0_f1 := T0.out.f0 1
    have T0_2 := T0.out.load.2.2
    have T0_f2 := T0.out.f0 2
    have T1_0 := T1.out.load.1
    have T1_f0 := T1.out.f0 0
    have T1_1 := T1.out.load.2
    have T1_f1 := T1.out.f0 1
    go_wp2_with fail
    refine bodyPost_ret (by simp [results, Tryz.results50, go_sem, T1_0, T1_1]; rfl) rfl ?_
    exact RR.out
end Go.Proofs.YtmcgkglmlfbijaaGreatDoor

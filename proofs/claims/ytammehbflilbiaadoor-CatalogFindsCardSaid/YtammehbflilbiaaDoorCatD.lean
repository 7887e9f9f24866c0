/-
  catalog.validItem and its closures.
-/
import Derived.Test.YtammehbflilbiaaDoorCatC
import Derived.Test.YtammehbflilbiaaDoorMap
namespace Go.Proofs.YtammehbflilbiaaDoor
open Go.RowKit Go.Lib Lex
set_option linter.unusedVariables false
set_option linter.unusedSimpArgs false

abbrev itemV (x : ItemM) : Array Value := #[.string ⟨x.name.toArray⟩, .int .i64 x.kind, .int .i64 x.count, .int .i64 x.load, .int .i64 x.size, .int .i64 x.share, .slice x.onP x.on.length x.onC]
def Odd5 (x : ItemM) : Prop := (x.count = 1 ∨ x.count = 3 ∨ x.count = 5) ∧ x.count = (x.on.length : Int)
theorem in135 (n : Int) : ([1, 3, 5] : List Int).contains n = true ↔ n = 1 ∨ n = 3 ∨ n = 5 := by simp
set_option maxRecDepth 100000 in
set_option maxHeartbeats 800000 in
theorem item_clo1 (w : World) (bx : Nat) (x : ItemM) (hx : Cells w bx (itemV x)) :
    Calls Tryd.prog 68 #[.pointer (some ⟨bx, 0, none⟩)] w (Ret w fun r _ => Tells (Odd5 x) r) := by
  have TX := Lib.hid hx
  clear hx
  have B := Cells.new w #[.int .i64 1, .int .i64 3, .int .i64 5] 3
  have x0 : (w.alloc (.cells #[.int .i64 1, .int .i64 3, .int .i64 5] 3)).cell? ⟨bx, 0, none⟩ = some (.string ⟨x.name.toArray⟩) := (TX.out.grow B.1).at 0 rfl
  have x1 : (w.alloc (.cells #[.int .i64 1, .int .i64 3, .int .i64 5] 3)).cell? ⟨bx, 1, none⟩ = some (.int .i64 x.kind) := (TX.out.grow B.1).at 1 rfl
  have x2 : (w.alloc (.cells #[.int .i64 1, .int .i64 3, .int .i64 5] 3)).cell? ⟨bx, 2, none⟩ = some (.int .i64 x.count) := (TX.out.grow B.1).at 2 rfl
  have x3 : (w.alloc (.cells #[.int .i64 1, .int .i64 3, .int .i64 5] 3)).cell? ⟨bx, 3, none⟩ = some (.int .i64 x.load) := (TX.out.grow B.1).at 3 rfl
  have x4 : (w.alloc (.cells #[.int .i64 1, .int .i64 3, .int .i64 5] 3)).cell? ⟨bx, 4, none⟩ = some (.int .i64 x.size) := (TX.out.grow B.1).at 4 rfl
  have x5 : (w.alloc (.cells #[.int .i64 1, .int .i64 3, .int .i64 5] 3)).cell? ⟨bx, 5, none⟩ = some (.int .i64 x.share) := (TX.out.grow B.1).at 5 rfl
  have x6 : (w.alloc (.cells #[.int .i64 1, .int .i64 3, .int .i64 5] 3)).cell? ⟨bx, 6, none⟩ = some (.slice x.onP x.on.length x.onC) := (TX.out.grow B.1).at 6 rfl
  go_enter Tryd.func68, Tryd.ntmps68
  go_wp2_with fail
  clear x0 x1 x2 x3 x4 x5 x6
  generalize w.heap.size = b at B ⊢
  generalize w.alloc _ = W at B ⊢
  obtain ⟨g0, t0⟩ := B
  have G := Lib.hid g0
  have TX := Lib.hid (TX.out.grow g0)
  refine (Tryd.slices_Contains_int b 0 3 3 [1, 3, 5] x.count W (by decide) (by decide) (fun j hj => ?_)).mono ?_
  · rcases j with _ | _ | _ | j
    · exact t0.at 0 rfl
    · exact t0.at 1 rfl
    · exact t0.at 2 rfl
    · simp at hj; omega
  rintro _ w1 ⟨rfl, rfl⟩
  clear t0 g0
  have hc := in135 x.count
  rw [show List.take 3 ([1, 3, 5] : List Int) = [1, 3, 5] from rfl]
  generalize ([1, 3, 5] : List Int).contains x.count = t at hc ⊢
  have HC := Lib.hid hc
  clear hc
  cases t
  · go_wp2_with fail
    go_ret
    exact ⟨_, rfl, G.out, Tells.no fun h => by have := HC.out.2 h.1; cases this⟩
  · by_cases c : x.count = (x.on.length : Int)
    · have d1 : (x.count == (x.on.length : Int)) = true := by simpa using c
      have C := Lib.hid c
      clear c
      have x0 : w1.cell? ⟨bx, 0, none⟩ = some (.string ⟨x.name.toArray⟩) := (TX.out).at 0 rfl
      have x1 : w1.cell? ⟨bx, 1, none⟩ = some (.int .i64 x.kind) := (TX.out).at 1 rfl
      have x2 : w1.cell? ⟨bx, 2, none⟩ = some (.int .i64 x.count) := (TX.out).at 2 rfl
      have x3 : w1.cell? ⟨bx, 3, none⟩ = some (.int .i64 x.load) := (TX.out).at 3 rfl
      have x4 : w1.cell? ⟨bx, 4, none⟩ = some (.int .i64 x.size) := (TX.out).at 4 rfl
      have x5 : w1.cell? ⟨bx, 5, none⟩ = some (.int .i64 x.share) := (TX.out).at 5 rfl
      have x6 : w1.cell? ⟨bx, 6, none⟩ = some (.slice x.onP x.on.length x.onC) := (TX.out).at 6 rfl
      go_wp2_with fail
      go_ret
      exact ⟨_, rfl, G.out, Tells.yes ⟨HC.out.1 (by first | rfl | trivial), C.out⟩⟩
    · have d1 : (x.count == (x.on.length : Int)) = false := by simpa using c
      have C := Lib.hid c
      clear c
      have x0 : w1.cell? ⟨bx, 0, none⟩ = some (.string ⟨x.name.toArray⟩) := (TX.out).at 0 rfl
      have x1 : w1.cell? ⟨bx, 1, none⟩ = some (.int .i64 x.kind) := (TX.out).at 1 rfl
      have x2 : w1.cell? ⟨bx, 2, none⟩ = some (.int .i64 x.count) := (TX.out).at 2 rfl
      have x3 : w1.cell? ⟨bx, 3, none⟩ = some (.int .i64 x.load) := (TX.out).at 3 rfl
      have x4 : w1.cell? ⟨bx, 4, none⟩ = some (.int .i64 x.size) := (TX.out).at 4 rfl
      have x5 : w1.cell? ⟨bx, 5, none⟩ = some (.int .i64 x.share) := (TX.out).at 5 rfl
      have x6 : w1.cell? ⟨bx, 6, none⟩ = some (.slice x.onP x.on.length x.onC) := (TX.out).at 6 rfl
      go_wp2_with fail
      go_ret
      exact ⟨_, rfl, G.out, Tells.no fun h => C.out h.2⟩
theorem item_clo2 (w : World) (bx : Nat) (x : ItemM) (hx : Cells w bx (itemV x)) :
    Calls Tryd.prog 69 #[.pointer (some ⟨bx, 0, none⟩)] w (Ret w fun r _ => Tells (Within x.count 1 8) r) := by
  have G := Lib.hid (Gr.refl w)
  have TX := Lib.hid hx
  clear hx
  have x0 : w.cell? ⟨bx, 0, none⟩ = some (.string ⟨x.name.toArray⟩) := (TX.out).at 0 rfl
  have x1 : w.cell? ⟨bx, 1, none⟩ = some (.int .i64 x.kind) := (TX.out).at 1 rfl
  have x2 : w.cell? ⟨bx, 2, none⟩ = some (.int .i64 x.count) := (TX.out).at 2 rfl
  have x3 : w.cell? ⟨bx, 3, none⟩ = some (.int .i64 x.load) := (TX.out).at 3 rfl
  have x4 : w.cell? ⟨bx, 4, none⟩ = some (.int .i64 x.size) := (TX.out).at 4 rfl
  have x5 : w.cell? ⟨bx, 5, none⟩ = some (.int .i64 x.share) := (TX.out).at 5 rfl
  have x6 : w.cell? ⟨bx, 6, none⟩ = some (.slice x.onP x.on.length x.onC) := (TX.out).at 6 rfl
  go_enter Tryd.func69, Tryd.ntmps69
  go_wp2_with fail
  refine (cat_within _ _ _ _).mono ?_
  rintro _ w1 ⟨⟨v1, rfl, h1⟩, rfl⟩
  rcases h1.cases with ⟨rfl, k1⟩ | ⟨rfl, k1⟩ <;> have H2 := Lib.hid k1 <;> clear k1 h1
  · go_wp2_with fail
    go_ret
    exact ⟨_, rfl, G.out, Tells.yes H2.out⟩
  · go_wp2_with fail
    go_ret
    exact ⟨_, rfl, G.out, Tells.no fun h => H2.out h⟩
theorem item_clo3 (w : World) (bx : Nat) (x : ItemM) (hx : Cells w bx (itemV x)) :
    Calls Tryd.prog 70 #[.pointer (some ⟨bx, 0, none⟩)] w (Ret w fun r _ => Tells (x.count = 1 ∧ x.on.length = 1) r) := by
  have G := Lib.hid (Gr.refl w)
  have TX := Lib.hid hx
  clear hx
  have x0 : w.cell? ⟨bx, 0, none⟩ = some (.string ⟨x.name.toArray⟩) := (TX.out).at 0 rfl
  have x1 : w.cell? ⟨bx, 1, none⟩ = some (.int .i64 x.kind) := (TX.out).at 1 rfl
  have x2 : w.cell? ⟨bx, 2, none⟩ = some (.int .i64 x.count) := (TX.out).at 2 rfl
  have x3 : w.cell? ⟨bx, 3, none⟩ = some (.int .i64 x.load) := (TX.out).at 3 rfl
  have x4 : w.cell? ⟨bx, 4, none⟩ = some (.int .i64 x.size) := (TX.out).at 4 rfl
  have x5 : w.cell? ⟨bx, 5, none⟩ = some (.int .i64 x.share) := (TX.out).at 5 rfl
  have x6 : w.cell? ⟨bx, 6, none⟩ = some (.slice x.onP x.on.length x.onC) := (TX.out).at 6 rfl
  by_cases c : x.count = 1
  · have e1 : (x.count == 1) = true := by simpa using c
    have C := Lib.hid c
    clear c
    by_cases c2 : x.on.length = 1
    · have e2 : ((x.on.length : Int) == 1) = true := by
        have : (x.on.length : Int) = 1 := by omega
        simpa using this
      have C2 := Lib.hid c2
      clear c2
      go_enter Tryd.func70, Tryd.ntmps70
      go_wp2_with fail
      go_ret
      exact ⟨_, rfl, G.out, Tells.yes ⟨C.out, C2.out⟩⟩
    · have e2 : ((x.on.length : Int) == 1) = false := by
        have : ¬ (x.on.length : Int) = 1 := by omega
        simpa using this
      have C2 := Lib.hid c2
      clear c2
      go_enter Tryd.func70, Tryd.ntmps70
      go_wp2_with fail
      go_ret
      exact ⟨_, rfl, G.out, Tells.no fun h => C2.out h.2⟩
  · have e1 : (x.count == 1) = false := by simpa using c
    have C := Lib.hid c
    clear c
    go_enter Tryd.func70, Tryd.ntmps70
    go_wp2_with fail
    go_ret
    exact ⟨_, rfl, G.out, Tells.no fun h => C.out h.1⟩
theorem int_key {n : Int} : MapKept.IsKey (.int .i64) (.int .i64 n) := by simp [MapKept.IsKey]
theorem stores3 (W : World) (a b c : Value) :
    (Instr.mapUpdate 89 (.map (some W.heap.size)) (.int .i64 0) a).run Tryd.prog (W.alloc (.map #[] 0)) = .ok () (W.alloc (.map #[⟨.int .i64 0, a, 0⟩] 1)) ∧
    (Instr.mapUpdate 89 (.map (some W.heap.size)) (.int .i64 1) b).run Tryd.prog (W.alloc (.map #[⟨.int .i64 0, a, 0⟩] 1)) = .ok () (W.alloc (.map #[⟨.int .i64 0, a, 0⟩, ⟨.int .i64 1, b, 1⟩] 2)) ∧
    (Instr.mapUpdate 89 (.map (some W.heap.size)) (.int .i64 2) c).run Tryd.prog (W.alloc (.map #[⟨.int .i64 0, a, 0⟩, ⟨.int .i64 1, b, 1⟩] 2)) = .ok () (W.alloc (.map #[⟨.int .i64 0, a, 0⟩, ⟨.int .i64 1, b, 1⟩, ⟨.int .i64 2, c, 2⟩] 3)) :=
  ⟨run_store_alloc (es := #[]) (c := 0) a Tryd.underlying89 Tryd.underlying3 int_key rfl rfl,
   run_store_alloc (es := #[⟨.int .i64 0, a, 0⟩]) (c := 1) b Tryd.underlying89 Tryd.underlying3 int_key rfl rfl,
   run_store_alloc (es := #[⟨.int .i64 0, a, 0⟩, ⟨.int .i64 1, b, 1⟩]) (c := 2) c Tryd.underlying89 Tryd.underlying3 int_key rfl rfl⟩
theorem look3 (W : World) (a b c : Value) (k : Int) : (Instr.lookup 89 (.map (some W.heap.size)) (.int .i64 k) false).run Tryd.prog (W.alloc (.map #[⟨.int .i64 0, a, 0⟩, ⟨.int .i64 1, b, 1⟩, ⟨.int .i64 2, c, 2⟩] 3)) =
    .ok (if k = 0 then a else if k = 1 then b else if k = 2 then c else .nilFunc) (W.alloc (.map #[⟨.int .i64 0, a, 0⟩, ⟨.int .i64 1, b, 1⟩, ⟨.int .i64 2, c, 2⟩] 3)) := by
  have h : MapAt (W.alloc (.map #[⟨.int .i64 0, a, 0⟩, ⟨.int .i64 1, b, 1⟩, ⟨.int .i64 2, c, 2⟩] 3)) W.heap.size [(.int .i64 0, a), (.int .i64 1, b), (.int .i64 2, c)] := ⟨_, _, (MapKept.heap_alloc W _).1, rfl⟩
  split
  · next e => subst e; exact (run_lookup_kv h Tryd.underlying89 Tryd.underlying3 int_key rfl).1
  · split
    · next e => subst e; exact (run_lookup_kv h Tryd.underlying89 Tryd.underlying3 int_key rfl).1
    · split
      · next e => subst e; exact (run_lookup_kv h Tryd.underlying89 Tryd.underlying3 int_key rfl).1
      · next e0 e1 e2 =>
        exact (run_lookup_none h Tryd.underlying89 Tryd.underlying3 int_key (by kernel_rfl) (by
          have b0 : (k == 0) = false := by simpa using e0
          have b1 : (k == 1) = false := by simpa using e1
          have b2 : (k == 2) = false := by simpa using e2
          simp [fkv, Instr.sameNow, b0, b1, b2])).1
end Go.Proofs.YtammehbflilbiaaDoor

/-
 Format of placements.
-/
import Derived.Test.YtchpbaaabnkkkaaGreatDoorPlJ
import Derived.Test.YtchpbaaabnkkkaaGreatDoorPlB
import Derived.Test.YtchpbaaabnkkkaaGreatDoorInv
import Derived.Test.YtchpbaaabnkkkaaGreatDoorCatP
import Derived.Lib.Join
namespace Go.Proofs.YtchpbaaabnkkkaaGreatDoor
open Go.RowKit Go.Lib Lex
set_option linter.unusedVariables false
set_option linter.unusedSimpArgs false

theorem str_cat (a b : List UInt8) : (⟨a.toArray⟩ : ByteArray) ++ ⟨b.toArray⟩ = ⟨(a ++ b).toArray⟩ := by
 apply ByteArray.ext
 simp
def machN (M : Mdl) (n : Int) : List UInt8 := match M.machs[(n - 1).toNat]? with
 | some x => x.name
 | none => []
def stN (s : Int) : List UInt8 := if s = 0 then [114, 101, 97, 100, 121] else if s = 1 then [108, 111, 97, 100, 105, 110, 103] else [112, 97, 117, 115, 101, 100]
def unitT (M : Mdl) (u : UnitM) : List UInt8 := (machN M u.mach ++ [32]) ++ stN u.st
def lineT (M : Mdl) (it : ItemM) (l : List UnitM) : List UInt8 := (it.name ++ [58, 32]) ++ if l = [] then [110, 111, 116, 104, 105, 110, 103] else Lib.join (l.map (unitT M)) [44, 32]
def linesT (M : Mdl) (X : Plc) : Nat → List (List UInt8)
 | 0 => []
 | k + 1 => linesT M X k ++ (match M.items[k]? with | some it => [lineT M it (unitsP X ((k : Int) + 1))] | none => [])
theorem linesT_step {M : Mdl} {X : Plc} {k : Nat} {it : ItemM} (h : M.items[k]? = some it) : linesT M X (k + 1) = linesT M X k ++ [lineT M it (unitsP X ((k : Int) + 1))] := by
 show linesT M X k ++ (match M.items[k]? with | some it => [lineT M it (unitsP X ((k : Int) + 1))] | none => []) = _
 rw [h]
theorem linesT_len (M : Mdl) (X : Plc) : ∀ k, k ≤ M.items.length → (linesT M X k).length = k
 | 0, _ => rfl
 | k + 1, h => by rw [linesT_step (List.getElem?_eq_getElem (by omega)), List.length_append, linesT_len M X k (by omega)]; rfl
theorem stN_len (s : Int) : (stN s).length ≤ 7 := by unfold stN; split <;> (try split) <;> simp
theorem machN_at {M : Mdl} {k : Nat} {x : MachM} (h : M.machs[k]? = some x) : machN M ((k : Int) + 1) = x.name := by
 unfold machN
 rw [show ((k : Int) + 1 - 1).toNat = k by omega, h]
theorem machN_len {M : Mdl} (h : Few M) (n : Int) : (machN M n).length ≤ 100 := by
 unfold machN
 split
 ·next x hx => exact h.2.2.2.2.1 x (List.mem_of_getElem? hx)
 ·simp
theorem unitT_len {M : Mdl} (h : Few M) (u : UnitM) : (unitT M u).length ≤ 108 := by
 have h1 := machN_len h u.mach
 have h2 := stN_len u.st
 unfold unitT
 simp only [List.length_append, List.length_singleton]
 omega
theorem join_snoc (l : List (List UInt8)) (x : List UInt8) (sep : List UInt8) : Lib.join (l ++ [x]) sep = if l = [] then x else (Lib.join l sep ++ sep) ++ x := by
 cases l with
 | nil => simp [Lib.join_one]
 | cons y l =>
  rw [List.cons_append, Lib.join_cons, Lib.join_cons, if_neg (by simp)]
  unfold Lib.joinTail
  simp [List.append_assoc]
theorem join_bound {l : List (List UInt8)} (h : ∀ x ∈ l, x.length ≤ 108) : (Lib.join l [44, 32]).length ≤ 110 * l.length := by
 cases l with
 | nil => simp [Lib.join_nil]
 | cons y l =>
  rw [Lib.join_cons, List.length_append]
  have h1 := h y List.mem_cons_self
  have h2 : ∀ r : List (List UInt8), (∀ x ∈ r, x.length ≤ 108) → (Lib.joinTail [44, 32] r).length ≤ 110 * r.length := fun r hr => by
   induction r with
   | nil => simp [Lib.joinTail]
   | cons z r ih =>
    have h3 := hr z List.mem_cons_self
    have h4 := ih (fun x hx => hr x (List.mem_cons_of_mem _ hx))
    have e : Lib.joinTail [44, 32] (z :: r) = ([44, 32] ++ z) ++ Lib.joinTail [44, 32] r := by simp [Lib.joinTail]
    rw [e, List.length_append, List.length_append, List.length_cons]
    simp
    omega
  have h5 := h2 l (fun x hx => h x (List.mem_cons_of_mem _ hx))
  rw [List.length_cons]
  omega
theorem str_size (h : 9 < Tryz.prog.types.size) : (Tryz.prog.types[9]'h).size = 1 := by kernel_rfl
set_option maxRecDepth 100000 in
set_option maxHeartbeats 1600000 in
theorem format_clo (w : World) (P : Ptrs) (M : Mdl) (bm : Nat) (u : UnitM) (hm : MdlAt w P M) (hf : Few M) (ht : Cells w bm (mcells P M)) (hu : 1 ≤ u.mach ∧ u.mach ≤ (M.machs.length : Int)) (hs : u.st = 0 ∨ u.st = 1 ∨ u.st = 2) :
  Calls Tryz.prog 66 #[.agg #[.int .i64 u.mach, .int .i64 u.st], .pointer (some ⟨bm, 0, none⟩)] w (Ret w fun r _ => r = .string ⟨(unitT M u).toArray⟩) := by
 obtain ⟨ma, st⟩ := u
 obtain ⟨k, rfl⟩ : ∃ k : Nat, ma = (k : Int) + 1 := ⟨(ma - 1).toNat, by dsimp only at hu; omega⟩
 dsimp only at hu hs
 have B := Cells.new w #[.int .i64 ((k : Int) + 1), .int .i64 st] 74
 have HB := Lib.hid B
 have TM := Lib.hid (ht.grow B.1)
 have HM := Lib.hid (hm.grow B.1)
 have HF := Lib.hid hf
 have hlk : k < M.machs.length := by omega
 have hlk' : (k : Int) < (M.machs.length : Int) := by omega
 clear B hm ht hf hu
 dsimp only
 go_enter Tryz.func66, Tryz.ntmps66
 go_wp2_with fail
 generalize w.heap.size = b9 at HB ⊢
 generalize w.alloc _ = W at HB TM HM ⊢
 have G := Lib.hid HB.out.1
 have u0 := HB.out.2.c 0 rfl
 have u1 := HB.out.2.c 1 rfl
 clear HB
 obtain ⟨b, o, y, hpp, hy, hc⟩ := mach_at HM.out.machs rfl hlk
 have HN := Lib.hid (machN_at hy)
 have hyl := HF.out.2.2.2.2.1 y (List.mem_of_getElem? hy)
 have m3 := mc3 TM.out
 rw [hpp] at m3
 have c0 := fun w' g => (hc w' g).1
 have hw1 : IntKind.i64.wrap ((k : Int) + 1 - 1) = (k : Int) := by rw [IntKind.wrap_i64]; have := HF.out.1; omega
 have hw0 : IntKind.i64.wrap (k : Int) = (k : Int) := by rw [IntKind.wrap_i64]; have := HF.out.1; omega
 have g0 : Gr W W.drew := (Gr.refl _).drew
 clear hy hc hpp
 rcases hs with rfl | rfl | rfl
 ·refine wp_region_fast [(0, true), (1, true), (2, true), (3, true), (4, true), (5, true), (6, true), (7, true), (8, true), (9, true), (10, true), (11, true), (12, true), (13, true), (14, true)] (by kernel_rfl) (by kernel_rfl) rfl (by kernel_rfl) (fun _ _ d _ _ h => by cases d <;> exact h) ?_
  have hsz := str_size
  obtain ⟨n1, hn1⟩ : ∃ n, y.name ++ [32] = n := ⟨_, rfl⟩
  have hA1 : (⟨y.name.toArray⟩ : ByteArray) ++ ⟨#[32]⟩ = ⟨n1.toArray⟩ := by rw [show (⟨#[32]⟩ : ByteArray) = ⟨[32].toArray⟩ from rfl, str_cat, hn1]
  have hl1 : n1.length = y.name.length + 1 := by rw [← hn1]; simp
  have hz1 : ¬ 9223372036854775807 < y.name.length + 1 := by omega
  obtain ⟨n2, hn2⟩ : ∃ n, n1 ++ [114, 101, 97, 100, 121] = n := ⟨_, rfl⟩
  have hA2 : (⟨n1.toArray⟩ : ByteArray) ++ ⟨#[114, 101, 97, 100, 121]⟩ = ⟨n2.toArray⟩ := by rw [show (⟨#[114, 101, 97, 100, 121]⟩ : ByteArray) = ⟨[114, 101, 97, 100, 121].toArray⟩ from rfl, str_cat, hn2]
  have hz2 : ¬ 9223372036854775807 < y.name.length + 1 + 5 := by omega
  have HR := Lib.hid (show unitT M ⟨(k : Int) + 1, 0⟩ = n2 from by unfold unitT; rw [HN.out]; show (y.name ++ [32]) ++ [114, 101, 97, 100, 121] = n2; rw [hn1, hn2])
  clear hn1 hn2
  repeat (refine wpE_readB (v := ?_) g0 rfl rfl (fun w' hg => ?_) (fun K hK => ?_); rotate_left; (go_simp; rfl); go_simp; refine hK _ _ ?_; clear hK K)
  refine wpE_nil ?_
  have G := Lib.hid (G.out.trans g0)
  clear m3 u0 u1 c0 g0 hA1 hA2
  go_wp2_with fail
  go_ret
  exact ⟨_, rfl, G.out, by rw [HR.out]; rfl⟩
 ·refine wp_region_fast [(0, true), (1, true), (2, true), (3, true), (4, true), (5, true), (6, true), (7, true), (8, true), (9, true), (10, true), (11, true), (12, true), (13, true), (14, true)] (by kernel_rfl) (by kernel_rfl) rfl (by kernel_rfl) (fun _ _ d _ _ h => by cases d <;> exact h) ?_
  have hsz := str_size
  obtain ⟨n1, hn1⟩ : ∃ n, y.name ++ [32] = n := ⟨_, rfl⟩
  have hA1 : (⟨y.name.toArray⟩ : ByteArray) ++ ⟨#[32]⟩ = ⟨n1.toArray⟩ := by rw [show (⟨#[32]⟩ : ByteArray) = ⟨[32].toArray⟩ from rfl, str_cat, hn1]
  have hl1 : n1.length = y.name.length + 1 := by rw [← hn1]; simp
  have hz1 : ¬ 9223372036854775807 < y.name.length + 1 := by omega
  obtain ⟨n2, hn2⟩ : ∃ n, n1 ++ [108, 111, 97, 100, 105, 110, 103] = n := ⟨_, rfl⟩
  have hA2 : (⟨n1.toArray⟩ : ByteArray) ++ ⟨#[108, 111, 97, 100, 105, 110, 103]⟩ = ⟨n2.toArray⟩ := by rw [show (⟨#[108, 111, 97, 100, 105, 110, 103]⟩ : ByteArray) = ⟨[108, 111, 97, 100, 105, 110, 103].toArray⟩ from rfl, str_cat, hn2]
  have hz2 : ¬ 9223372036854775807 < y.name.length + 1 + 7 := by omega
  have HR := Lib.hid (show unitT M ⟨(k : Int) + 1, 1⟩ = n2 from by unfold unitT; rw [HN.out]; show (y.name ++ [32]) ++ [108, 111, 97, 100, 105, 110, 103] = n2; rw [hn1, hn2])
  clear hn1 hn2
  repeat (refine wpE_readB (v := ?_) g0 rfl rfl (fun w' hg => ?_) (fun K hK => ?_); rotate_left; (go_simp; rfl); go_simp; refine hK _ _ ?_; clear hK K)
  refine wpE_nil ?_
  have G := Lib.hid (G.out.trans g0)
  clear m3 u0 u1 c0 g0 hA1 hA2
  go_wp2_with fail
  go_ret
  exact ⟨_, rfl, G.out, by rw [HR.out]; rfl⟩
 ·refine wp_region_fast [(0, true), (1, true), (2, true), (3, true), (4, true), (5, true), (6, true), (7, true), (8, true), (9, true), (10, true), (11, true), (12, true), (13, true), (14, true)] (by kernel_rfl) (by kernel_rfl) rfl (by kernel_rfl) (fun _ _ d _ _ h => by cases d <;> exact h) ?_
  have hsz := str_size
  obtain ⟨n1, hn1⟩ : ∃ n, y.name ++ [32] = n := ⟨_, rfl⟩
  have hA1 : (⟨y.name.toArray⟩ : ByteArray) ++ ⟨#[32]⟩ = ⟨n1.toArray⟩ := by rw [show (⟨#[32]⟩ : ByteArray) = ⟨[32].toArray⟩ from rfl, str_cat, hn1]
  have hl1 : n1.length = y.name.length + 1 := by rw [← hn1]; simp
  have hz1 : ¬ 9223372036854775807 < y.name.length + 1 := by omega
  obtain ⟨n2, hn2⟩ : ∃ n, n1 ++ [112, 97, 117, 115, 101, 100] = n := ⟨_, rfl⟩
  have hA2 : (⟨n1.toArray⟩ : ByteArray) ++ ⟨#[112, 97, 117, 115, 101, 100]⟩ = ⟨n2.toArray⟩ := by rw [show (⟨#[112, 97, 117, 115, 101, 100]⟩ : ByteArray) = ⟨[112, 97, 117, 115, 101, 100].toArray⟩ from rfl, str_cat, hn2]
  have hz2 : ¬ 9223372036854775807 < y.name.length + 1 + 6 := by omega
  have HR := Lib.hid (show unitT M ⟨(k : Int) + 1, 2⟩ = n2 from by unfold unitT; rw [HN.out]; show (y.name ++ [32]) ++ [112, 97, 117, 115, 101, 100] = n2; rw [hn1, hn2])
  clear hn1 hn2
  repeat (refine wpE_readB (v := ?_) g0 rfl rfl (fun w' hg => ?_) (fun K hK => ?_); rotate_left; (go_simp; rfl); go_simp; refine hK _ _ ?_; clear hK K)
  refine wpE_nil ?_
  have G := Lib.hid (G.out.trans g0)
  clear m3 u0 u1 c0 g0 hA1 hA2
  go_wp2_with fail
  go_ret
  exact ⟨_, rfl, G.out, by rw [HR.out]; rfl⟩
theorem format_map (w : World) (P : Ptrs) (M : Mdl) (bm : Nat) (it : ItemM) (l : List UnitM) (hm : MdlAt w P M) (hf : Few M) (ht : Cells w bm (mcells P M)) (hl : ∀ u ∈ l, UnitOK M it u) :
  MapU w (.func (.func 66) #[] #[.pointer (some ⟨bm, 0, none⟩)]) l (fun u => .string ⟨(unitT M u).toArray⟩) :=
 ⟨_, _, rfl, enters_of Tryz.func66 (by kernel_rfl) rfl, fun w' g x hx => format_clo w' P M bm x (hm.grow g) hf (ht.grow g) (hl x hx).1 (by
  have := (hl x hx).2
  omega)⟩
set_option maxRecDepth 100000 in
set_option maxHeartbeats 800000 in
theorem plc_mapped_str (w : World) (p : Option Addr) (n c : Nat) (l : List UnitM) (v : Value) (g : UnitM → List UInt8) (hl : UnL w (.slice p n c) l) (hn : l.length = n) (hb : n ≤ 1000) (hv : MapU w v l (fun u => .string ⟨(g u).toArray⟩)) :
  Calls Tryz.prog 65 #[.slice p n c, v] w (Ret w fun r w' => OwnL w' w.heap.size 9 1 encS r (l.map g)) := by
 obtain ⟨f, caps, rfl, he, h5⟩ := hv
 have H5 := Lib.hid h5
 have HL := Lib.hid hl
 have HN := Lib.hid hn
 clear h5 hl hn
 go_enter Tryz.func65, Tryz.ntmps65
 go_wp2_with fail
 go_loopw [5, 10] (fun v i w9 => ∃ (k : Nat) (x : Value), v = x ∧ i = .int .i64 (k : Int) ∧ k ≤ n ∧ OwnL w9 w.heap.size 9 1 encS v ((l.take k).map g) ∧ Gr w w9) (fun _ i _ => n - (RowKit.intOf i).toNat)
 case atStart => exact ⟨0, _, rfl, rfl, Nat.zero_le _, OwnL.nil _ _ _, Gr.refl _⟩
 case round =>
  obtain ⟨k, v, rfl, rfl, hk, ho, hg⟩ := hrel
  have HO := Lib.hid ho
  have GL := Lib.hid hg
  clear ho hg
  by_cases hlt : k < n
  ·have hlt' : (k : Int) < (n : Int) := by omega
   obtain ⟨b, o, x, rfl, hx, hc⟩ := unit_at (HL.out.grow GL.out) HN.out hlt
   have HX := Lib.hid (List.mem_of_getElem? hx)
   obtain ⟨c0, c1⟩ := hc _ (Gr.refl _)
   have HF := Lib.hid (map_take g hx)
   have HLE := Lib.hid (show ((l.take k).map g).length ≤ 1000 from by rw [List.length_map, List.length_take]; omega)
   clear hx hc
   obtain ⟨pv, cv, hv, _, _⟩ := HO.out.read.parts
   generalize ((l.take k).map g).length = N at hv
   subst hv
   have B := Cells.new wr #[.int .i64 x.mach, .int .i64 x.st] 74
   have a0 := B.2.at 0 rfl
   have a1 := B.2.at 1 rfl
   have HB := Lib.hid B
   clear B
   go_wp2_with fail
   clear a0 a1 c0 c1
   generalize wr.heap.size = b8 at HB ⊢
   generalize wr.alloc _ = W8 at HB ⊢
   have GL := Lib.hid (GL.out.trans HB.out.1)
   have HO := Lib.hid (HO.out.grow HB.out.1)
   clear HB
   refine (H5.out W8 GL.out x HX.out).mono ?_
   rintro _ w2 ⟨_, rfl, g2, rfl⟩
   have HO := Lib.hid (HO.out.grow g2)
   have GL := Lib.hid (GL.out.trans g2)
   clear g2
   go_wp2_with (at_builtin; refine Hold.hold ?_)
   have B8 := SlL.new w2 9 encS_len [g x] #[.string ⟨(g x).toArray⟩] 1 rfl rfl (by decide)
   generalize w2.heap.size = b9 at B8 ⊢
   generalize w2.alloc _ = w8 at B8 ⊢
   obtain ⟨g8, t8⟩ := B8
   refine Hold.go ?_
   refine wpList_appendL rfl _ _ 22 9 _ 16 rfl Tryz.underlying22 str_info rfl (by decide) encS_len encS_one w.heap.size _ _ _ [g x] rfl (HO.out.grow g8) rfl t8 (by have := HLE.out; simp only [List.length_singleton]; omega) (by have := HLE.out; simp only [List.length_singleton]; omega) ((GL.out.trans g8).size) ?_
   intro v' w9 ho9 k9
   have HO9 := Lib.hid ho9
   have G9 := Lib.hid ((HO.out.grow g8).gr (GL.out.trans g8) k9)
   clear ho9 k9 g8 t8
   go_wp2_with fail
   exact ⟨⟨k + 1, _, rfl, by go_num, by omega, by rw [HF.out]; exact HO9.out, G9.out⟩, by simp [RowKit.intOf]; omega⟩
  ·obtain rfl : k = n := by omega
   have h9 := HO.out
   rw [List.take_of_length_le (by rw [HN.out]; exact Nat.le_refl _)] at h9
   have HO := Lib.hid h9
   clear h9
   go_wp2_with fail
   go_ret
   exact ⟨_, rfl, GL.out, HO.out⟩
def FormR (M : Mdl) (X : Plc) (r : Value) (w' : World) : Prop := (PlcOK M X ∧ StrL w' r (linesT M X M.items.length)) ∨ (¬ PlcOK M X ∧ StrL w' r [])
theorem join_str (w : World) (p : Option Addr) (n c : Nat) (l : List (List UInt8)) (hl : StrL w (.slice p n c) l) (hn : l.length = n) (hpos : 0 < n) (hN : n ≤ 1000000) (hb : (Lib.join l [44, 32]).length ≤ 140737488355328) :
  Calls Tryz.prog 67 #[.slice p n c, .string ⟨#[44, 32]⟩] w (Ret w fun r _ => r = .string ⟨(Lib.join l [44, 32]).toArray⟩) := by
 subst hn
 have hcap : l.length ≤ c := by
  obtain ⟨_, _, hv, h, _⟩ := hl.parts
  injection hv with e1 e2 e3
  omega
 obtain ⟨b, o, rfl, hc⟩ := SlV.cells hl (by omega)
 have hcell : ∀ (j : Nat) (x : List UInt8), l[j]? = some x → w.cell? ⟨b, o + j, none⟩ = some (.string ⟨x.toArray⟩) := fun j x hx => by
  have := hc j (.string ⟨x.toArray⟩) (by
   have := flat_get encS_len l j x 0 hx (by decide)
   simpa [encS] using this)
  exact this
 have e1 : ∀ l : List (List UInt8), (l.map fun s => (⟨s.toArray⟩ : ByteArray)).map (fun x => x.data.toList) = l := fun l => by
  induction l with
  | nil => rfl
  | cons x l ih => rw [List.map_cons, List.map_cons, ih]
 have h := Tryz.strings_Join b o c (l.map fun s => (⟨s.toArray⟩ : ByteArray)) ⟨#[44, 32]⟩ w (fun j x hx => by
  rw [List.getElem?_map] at hx
  cases hy : l[j]? with
  | none => rw [hy] at hx; cases hx
  | some y =>
   rw [hy] at hx
   injection hx with hx
   subst hx
   exact hcell j y hy) (World.block_lt_of_cell? w ⟨b, o + 0, none⟩ (hcell 0 _ (List.getElem?_eq_getElem hpos))) (by rw [List.length_map]; omega) (by rw [List.length_map]; exact hcap) (by rw [e1]; exact hb)
 rw [List.length_map, e1] at h
 refine h.mono ?_
 rintro e w' ⟨rfl, g⟩
 exact ⟨_, rfl, g, rfl⟩
def partsT (M : Mdl) (l : List UnitM) : List (List UInt8) := if l = [] then [[110, 111, 116, 104, 105, 110, 103]] else l.map (unitT M)
theorem lineT_parts (M : Mdl) (it : ItemM) (l : List UnitM) : lineT M it l = (it.name ++ [58, 32]) ++ Lib.join (partsT M l) [44, 32] := by
 unfold lineT partsT
 split
 ·rw [Lib.join_one]
 ·rfl
theorem partsT_bound {M : Mdl} (h : Few M) {l : List UnitM} (hl : l.length ≤ 1000) : (Lib.join (partsT M l) [44, 32]).length ≤ 110000 := by
 unfold partsT
 split
 ·rw [Lib.join_one]; simp
 ·have := join_bound (l := l.map (unitT M)) (fun x hx => by obtain ⟨u, _, rfl⟩ := List.mem_map.1 hx; exact unitT_len h u)
  rw [List.length_map] at this
  omega
set_option maxRecDepth 100000 in
set_option maxHeartbeats 3200000 in
theorem plc_Format (w : World) (P : Ptrs) (M : Mdl) (p : Option Addr) (c : Nat) (L : List RowU) (hm : MdlAt w P M) (hf : Few M) (ht : Tab w) (hp : PlcAt w p c L) (hk : FewK (usOf L)) :
  Calls Tryz.prog 26 #[.agg (mcells P M), plcV p c L] w (Ret w fun r w' => FormR M (usOf L) r w') := by
 have HT := Lib.hid ht
 have HF := Lib.hid hf
 have HK := Lib.hid hk
 clear ht hf hk
 have HM0 := Lib.hid hm
 have HP0 := Lib.hid hp
 have B0 := Cells.new w (mcells P M) 29
 have B1 := Cells.new (w.alloc (.cells (mcells P M) 29)) #[.slice p L.length c] 34
 simp only [World.size_alloc] at B1
 have m0 := mc0 B0.2 _ B1.1
 have m1 := mc1 B0.2 _ B1.1
 have m2 := mc2 B0.2 _ B1.1
 have m3 := mc3 B0.2 _ B1.1
 have m4 := mc4 B0.2 _ B1.1
 have m5 := mc5 B0.2 _ B1.1
 have m6 := mc6 B0.2 _ B1.1
 have m7 := mc7 B0.2 _ B1.1
 have m8 := mc8 B0.2 _ B1.1
 have m9 := mc9 B0.2 _ B1.1
 have m10 := mc10 B0.2 _ B1.1
 have p0 := B1.2.at 0 rfl
 have H := Lib.hid (show _ ∧ _ ∧ _ from ⟨B0.1.trans B1.1, B0.2.grow B1.1, B1.2⟩)
 clear B0 B1 hm hp
 unfold mcells at H m0 m1 m2 m3 m4 m5 m6 m7 m8 m9 m10 ⊢
 unfold plcV
 go_enter Tryz.func26, Tryz.ntmps26
 go_wp2_with fail
 clear m0 m1 m2 m3 m4 m5 m6 m7 m8 m9 m10 p0
 generalize w.heap.size + 1 = bp at H ⊢
 generalize w.heap.size = bm at H ⊢
 generalize (w.alloc _).alloc _ = W at H ⊢
 have G := Lib.hid (show Gr w W from H.out.1)
 have TM := Lib.hid (show Cells W bm (mcells P M) from H.out.2.1)
 have TP := Lib.hid (show Cells W bp #[.slice p L.length c] from H.out.2.2)
 have HM := Lib.hid (HM0.out.grow G.out)
 have HP := Lib.hid (HP0.out.grow G.out)
 clear H
 refine (plc_Valid W P M p c L HM.out HF.out (HT.out.grow G.out) HP.out HK.out).mono ?_
 rintro _ w1 ⟨r, rfl, g1, h⟩
 have GW := Lib.hid g1
 rcases h.cases with ⟨rfl, k1⟩ | ⟨rfl, k1⟩
 rotate_left
 ·have HV := Lib.hid k1
  clear h k1
  go_wp2_with fail
  try rw [Exit.noGoto_ret]
  go_ret
  exact ⟨_, rfl, G.out.trans GW.out, .inr ⟨HV.out, SlL.nil _⟩⟩
 have HV := Lib.hid k1
 clear h k1
 have hfew := HF.out.1
 have TMx := Lib.hid (TM.out.grow g1)
 have m5 := mc5 TMx.out _ (Gr.refl _)
 clear g1
 go_wp2_with fail
 clear m5 TMx
 go_loopw [5, 16] (fun v i w9 => ∃ (k : Nat) (y : Value), v = y ∧ i = .int .i64 (k : Int) ∧ k ≤ M.items.length ∧ OwnL w9 W.heap.size 9 1 encS v (linesT M (usOf L) k) ∧ Gr W w9) (fun _ i _ => M.items.length - (RowKit.intOf i).toNat)
 case atStart => exact ⟨0, _, rfl, rfl, Nat.zero_le _, OwnL.nil _ _ _, GW.out⟩
 case round =>
  obtain ⟨k, v, hv0, rfl, hk, ho, hg⟩ := hrel
  have hv0 := hv0.symm
  subst hv0
  have HO := Lib.hid ho
  have GL := Lib.hid hg
  clear ho hg
  have HLL := Lib.hid (show (linesT M (usOf L) k).length ≤ 1000 by rw [linesT_len M _ k hk]; omega)
  by_cases hlt : k < M.items.length
  ·have hlt' : (k : Int) < (M.items.length : Int) := by omega
   have hkL : k < L.length := by rw [← usOf_len, HV.out.2.1]; exact hlt
   have hkL' : (k : Int) < (L.length : Int) := by omega
   obtain ⟨b, o, x, hpp, hx, hc⟩ := item_at (HM.out.grow GL.out).items rfl hlt
   have HIT := Lib.hid hx
   have hnl := (HF.out.2.2.2.2.2.1 x (List.mem_of_getElem? hx)).1
   obtain ⟨y0, y1, y2, y3, y4, y5, y6⟩ := hc _ (Gr.refl _)
   obtain ⟨bq, oq, z, hpq, hz, hcz⟩ := row_at (HP.out.rows.grow GL.out) rfl hkL
   have HLX := Lib.hid (show z.us = unitsP (usOf L) ((k : Int) + 1) from (unitsP_at hz).symm)
   have hzl : z.us.length ≤ 1000 := HK.out.2 z.us (List.mem_of_getElem? (usOf_at hz))
   have HON := Lib.hid (HP.out.uns z (List.mem_of_getElem? hz))
   have HUO := Lib.hid (show ∀ u ∈ z.us, UnitOK M x u from by rw [HLX.out]; exact (HV.out.units hx).2.1)
   have B := Cells.new wr (itemV x) 51
   have c0 := hcz _ B.1
   have s0 := (TP.out.grow (GL.out.trans B.1)).at 0 rfl
   have HBB := Lib.hid B
   have HNE := Lib.hid (show some wr.heap.size ≠ v.ownBlock from fun e => by have := (HO.out.lt _ e.symm).2; omega)
   rw [hpp]
   rw [hpq] at s0
   clear hx hc hpp hz hcz B
   unfold itemV at HBB
   go_wp2_with fail
   clear y0 y1 y2 y3 y4 y5 y6 c0 s0
   generalize wr.heap.size = b7 at HBB HNE ⊢
   generalize wr.alloc _ = W7 at HBB ⊢
   have GL := Lib.hid (GL.out.trans HBB.out.1)
   have HO := Lib.hid (HO.out.grow HBB.out.1)
   have T7 := Lib.hid (show Cells W7 b7 (itemV x) from HBB.out.2)
   clear HBB
   obtain ⟨pz, cz, lx⟩ := z
   have HLX := Lib.hid (show lx = unitsP (usOf L) ((k : Int) + 1) from HLX.out)
   have hxl : lx.length ≤ 1000 := hzl
   dsimp only
   refine (plc_mapped_str W7 pz lx.length cz lx _ (unitT M) (SlL.grow HON.out GL.out) rfl hxl (format_map W7 P M bm x lx (HM.out.grow GL.out) HF.out (TM.out.grow GL.out) HUO.out)).mono ?_
   rintro _ w2 ⟨r2, rfl, g2, h2⟩
   have GL := Lib.hid (GL.out.trans g2)
   have HO := Lib.hid (HO.out.grow g2)
   have T7 := Lib.hid (T7.out.grow g2)
   obtain ⟨p8, c8, hv8, _, _⟩ := h2.read.parts
   rw [List.length_map] at hv8
   subst hv8
   by_cases hem : lx = []
   ·subst hem
    clear h2 g2
    have B8 := SlL.new w2 9 encS_len [[110, 111, 116, 104, 105, 110, 103]] #[.string ⟨#[110, 111, 116, 104, 105, 110, 103]⟩] 1 rfl rfl (by decide)
    have HB8 := Lib.hid B8
    clear B8
    go_wp2_with fail
    generalize hb8 : w2.heap.size = b8 at HB8 ⊢
    clear hb8
    generalize w2.alloc _ = w3 at HB8 ⊢
    obtain ⟨p8, hp8⟩ : ∃ q : Option Addr, some ⟨b8, 0, none⟩ = q := ⟨_, rfl⟩
    have H8 := Lib.hid (show StrL w3 (.slice p8 1 1) (partsT M []) from by rw [← hp8]; exact HB8.out.2)
    have GL := Lib.hid (GL.out.trans HB8.out.1)
    have HO := Lib.hid (HO.out.grow HB8.out.1)
    have T7 := Lib.hid (T7.out.grow HB8.out.1)
    rw [hp8]
    clear HB8 hp8
    have HN8 := Lib.hid (show (partsT M []).length = 1 ∧ 0 < 1 ∧ 1 ≤ 1000 from ⟨rfl, by decide, by decide⟩)
    have HJB := Lib.hid (partsT_bound (M := M) HF.out hxl)
    have s7 : ∀ w', (Gr W w' ∧ Cells w' b7 (itemV x)) → w'.cell? ⟨b7, 0, none⟩ = some (.string ⟨x.name.toArray⟩) := fun w' h => h.2.at 0 rfl
    obtain ⟨n0, hn0⟩ : ∃ n, x.name ++ [58, 32] = n := ⟨_, rfl⟩
    have hA0 : (⟨x.name.toArray⟩ : ByteArray) ++ ⟨#[58, 32]⟩ = ⟨n0.toArray⟩ := by rw [show (⟨#[58, 32]⟩ : ByteArray) = ⟨[58, 32].toArray⟩ from rfl, str_cat, hn0]
    have hl0 : n0.length = x.name.length + 2 := by rw [← hn0]; simp
    have hz0 : ¬ 9223372036854775807 < x.name.length + 2 := by omega
    have hI0 : Gr W w3.drew ∧ Cells w3.drew b7 (itemV x) := ⟨GL.out.trans (Gr.refl w3).drew, T7.out.grow (Gr.refl w3).drew⟩
    refine Inv.wp_region_loose (fun w' => Gr W w' ∧ Cells w' b7 (itemV x)) (.read 0 (.read 1 (.read 2 (.read 3 (.read 4 (.one 5 (.read 6 (.one 7 (.one 8 (.read 9 .stop)))))))))) hI0 (by kernel_rfl) (by kernel_rfl) rfl (by kernel_rfl) (fun _ _ d _ _ h => by cases d <;> exact h) ?_
    repeat (refine Inv.wpL_read (v := ?_) rfl rfl (fun w' hg => ?_) (fun K hK => ?_); rotate_left; (go_simp; rfl); go_simp; refine hK _ _ ?_; clear hK K)
    clear s7
    have hpv : StrL w3.drew (.slice p8 1 1) (partsT M []) := SlL.grow H8.out (Gr.refl w3).drew
    refine Inv.wpL_fn (args := ?_) rfl rfl rfl rfl rfl rfl (by kernel_rfl) (by kernel_rfl) ?_ (fun K hK => ?_)
    rotate_left
    ·go_simp; rfl
    refine (join_str w3.drew p8 1 1 (partsT M []) hpv HN8.out.1 HN8.out.2.1 (by have := HN8.out.2.2; omega) (by have := HJB.out; omega)).mono ?_
    rintro _ w5 ⟨_, rfl, g5, rfl⟩
    have g05 := (Gr.refl w3).drew.trans g5
    refine ⟨_, rfl, ⟨GL.out.trans g05, T7.out.grow g05⟩, ?_⟩
    obtain ⟨J, hJ⟩ : ∃ J, Lib.join (partsT M []) [44, 32] = J := ⟨_, rfl⟩
    have hjl : J.length ≤ 110000 := by rw [← hJ]; exact HJB.out
    rw [hJ]
    obtain ⟨n2, hn2⟩ : ∃ n, n0 ++ J = n := ⟨_, rfl⟩
    have hA2 : (⟨n0.toArray⟩ : ByteArray) ++ ⟨J.toArray⟩ = ⟨n2.toArray⟩ := by rw [str_cat, hn2]
    have hz2 : ¬ 9223372036854775807 < x.name.length + 2 + J.length := by omega
    have HLN := Lib.hid (show lineT M x (unitsP (usOf L) ((k : Int) + 1)) = n2 from by rw [← HLX.out, lineT_parts, hn0, hJ, hn2])
    go_simp
    refine hK _ _ ?_
    clear hK K hpv
    repeat (refine Inv.wpL_read (v := ?_) rfl rfl (fun w' hg => ?_) (fun K hK => ?_); rotate_left; (go_simp; rfl); go_simp; refine hK _ _ ?_; clear hK K)
    clear hA0 hA2 hz0 hz2 hn0 hn2 hJ hl0 hjl
    refine Inv.wpL_val (v := ?_) (w' := ?_) rfl rfl ?_ ?_ (fun K hK => ?_)
    rotate_left 2
    ·go_simp; first | rfl | (constructor <;> rfl)
    ·exact ⟨(GL.out.trans g05).alloc _, (T7.out.grow g05).grow ((Gr.refl w5).alloc _)⟩
    go_simp
    refine hK _ _ ?_
    clear hK K
    have B8 := SlL.new w5 9 encS_len [n2] #[.string ⟨n2.toArray⟩] 1 rfl rfl (by decide)
    generalize w5.heap.size = b9 at B8 ⊢
    generalize w5.alloc _ = w6 at B8 ⊢
    obtain ⟨g6, t6⟩ := B8
    have g06 := g05.trans g6
    refine Inv.wpL_do rfl rfl (fun K hK => ?_)
    refine wp_appendL _ _ 22 9 _ 16 rfl Tryz.underlying22 str_info rfl (by decide) encS_len encS_one W.heap.size _ _ _ [n2] rfl (HO.out.grow g06) rfl t6 (by have := HLL.out; simp only [List.length_singleton]; omega) (by have := HLL.out; simp only [List.length_singleton]; omega) ((GL.out.trans g06).size) ?_
    intro v9 w9 ho9 k9
    have hG9 := (HO.out.grow g06).gr (GL.out.trans g06) k9
    refine ⟨⟨hG9, (T7.out.grow g06).grown k9 HNE.out⟩, hK _ _ ?_⟩
    clear hK K
    have HO9 := Lib.hid ho9
    have G9 := Lib.hid hG9
    clear ho9 k9 g06 g6 t6 g5 g05 hI0 hG9
    repeat (refine Inv.wpL_read (v := ?_) rfl rfl (fun w' hg => ?_) (fun K hK => ?_); rotate_left; (go_simp; rfl); go_simp; refine hK _ _ ?_; clear hK K)
    refine Inv.wpL_stop ?_
    go_wp2_with fail
    have hst := linesT_step (X := usOf L) HIT.out
    go_simp
    exact ⟨⟨_, _, _, _, _, ⟨k + 1, rfl, by omega, by rw [hst, HLN.out]; exact HO9.out, G9.out⟩, rfl, rfl, rfl, rfl, by go_num⟩, by simp [RowKit.intOf]; omega⟩
   ·have hpos : 0 < lx.length := List.length_pos_iff.2 hem
    have hne0 : ((lx.length : Int) == 0) = false := by simp; omega
    have HN8 := Lib.hid (show (partsT M lx).length = lx.length ∧ 0 < lx.length ∧ lx.length ≤ 1000 from ⟨by unfold partsT; rw [if_neg hem, List.length_map], hpos, hxl⟩)
    have H8 := Lib.hid (show StrL w2 (.slice p8 lx.length c8) (partsT M lx) from by
     have := h2.read
     unfold partsT
     rw [if_neg hem]
     exact this)
    clear h2 g2 hem
    go_wp2_with fail
    have HJB := Lib.hid (partsT_bound (M := M) HF.out hxl)
    have s7 : ∀ w', (Gr W w' ∧ Cells w' b7 (itemV x)) → w'.cell? ⟨b7, 0, none⟩ = some (.string ⟨x.name.toArray⟩) := fun w' h => h.2.at 0 rfl
    obtain ⟨n0, hn0⟩ : ∃ n, x.name ++ [58, 32] = n := ⟨_, rfl⟩
    have hA0 : (⟨x.name.toArray⟩ : ByteArray) ++ ⟨#[58, 32]⟩ = ⟨n0.toArray⟩ := by rw [show (⟨#[58, 32]⟩ : ByteArray) = ⟨[58, 32].toArray⟩ from rfl, str_cat, hn0]
    have hl0 : n0.length = x.name.length + 2 := by rw [← hn0]; simp
    have hz0 : ¬ 9223372036854775807 < x.name.length + 2 := by omega
    have hI0 : Gr W w2.drew ∧ Cells w2.drew b7 (itemV x) := ⟨GL.out.trans (Gr.refl w2).drew, T7.out.grow (Gr.refl w2).drew⟩
    refine Inv.wp_region_loose (fun w' => Gr W w' ∧ Cells w' b7 (itemV x)) (.read 0 (.read 1 (.read 2 (.read 3 (.read 4 (.one 5 (.read 6 (.one 7 (.one 8 (.read 9 .stop)))))))))) hI0 (by kernel_rfl) (by kernel_rfl) rfl (by kernel_rfl) (fun _ _ d _ _ h => by cases d <;> exact h) ?_
    repeat (refine Inv.wpL_read (v := ?_) rfl rfl (fun w' hg => ?_) (fun K hK => ?_); rotate_left; (go_simp; rfl); go_simp; refine hK _ _ ?_; clear hK K)
    clear s7
    have hpv : StrL w2.drew (.slice p8 lx.length c8) (partsT M lx) := SlL.grow H8.out (Gr.refl w2).drew
    refine Inv.wpL_fn (args := ?_) rfl rfl rfl rfl rfl rfl (by kernel_rfl) (by kernel_rfl) ?_ (fun K hK => ?_)
    rotate_left
    ·go_simp; rfl
    refine (join_str w2.drew p8 lx.length c8 (partsT M lx) hpv HN8.out.1 HN8.out.2.1 (by have := HN8.out.2.2; omega) (by have := HJB.out; omega)).mono ?_
    rintro _ w5 ⟨_, rfl, g5, rfl⟩
    have g05 := (Gr.refl w2).drew.trans g5
    refine ⟨_, rfl, ⟨GL.out.trans g05, T7.out.grow g05⟩, ?_⟩
    obtain ⟨J, hJ⟩ : ∃ J, Lib.join (partsT M lx) [44, 32] = J := ⟨_, rfl⟩
    have hjl : J.length ≤ 110000 := by rw [← hJ]; exact HJB.out
    rw [hJ]
    obtain ⟨n2, hn2⟩ : ∃ n, n0 ++ J = n := ⟨_, rfl⟩
    have hA2 : (⟨n0.toArray⟩ : ByteArray) ++ ⟨J.toArray⟩ = ⟨n2.toArray⟩ := by rw [str_cat, hn2]
    have hz2 : ¬ 9223372036854775807 < x.name.length + 2 + J.length := by omega
    have HLN := Lib.hid (show lineT M x (unitsP (usOf L) ((k : Int) + 1)) = n2 from by rw [← HLX.out, lineT_parts, hn0, hJ, hn2])
    go_simp
    refine hK _ _ ?_
    clear hK K hpv
    repeat (refine Inv.wpL_read (v := ?_) rfl rfl (fun w' hg => ?_) (fun K hK => ?_); rotate_left; (go_simp; rfl); go_simp; refine hK _ _ ?_; clear hK K)
    clear hA0 hA2 hz0 hz2 hn0 hn2 hJ hl0 hjl
    refine Inv.wpL_val (v := ?_) (w' := ?_) rfl rfl ?_ ?_ (fun K hK => ?_)
    rotate_left 2
    ·go_simp; first | rfl | (constructor <;> rfl)
    ·exact ⟨(GL.out.trans g05).alloc _, (T7.out.grow g05).grow ((Gr.refl w5).alloc _)⟩
    go_simp
    refine hK _ _ ?_
    clear hK K
    have B8 := SlL.new w5 9 encS_len [n2] #[.string ⟨n2.toArray⟩] 1 rfl rfl (by decide)
    generalize w5.heap.size = b9 at B8 ⊢
    generalize w5.alloc _ = w6 at B8 ⊢
    obtain ⟨g6, t6⟩ := B8
    have g06 := g05.trans g6
    refine Inv.wpL_do rfl rfl (fun K hK => ?_)
    refine wp_appendL _ _ 22 9 _ 16 rfl Tryz.underlying22 str_info rfl (by decide) encS_len encS_one W.heap.size _ _ _ [n2] rfl (HO.out.grow g06) rfl t6 (by have := HLL.out; simp only [List.length_singleton]; omega) (by have := HLL.out; simp only [List.length_singleton]; omega) ((GL.out.trans g06).size) ?_
    intro v9 w9 ho9 k9
    have hG9 := (HO.out.grow g06).gr (GL.out.trans g06) k9
    refine ⟨⟨hG9, (T7.out.grow g06).grown k9 HNE.out⟩, hK _ _ ?_⟩
    clear hK K
    have HO9 := Lib.hid ho9
    have G9 := Lib.hid hG9
    clear ho9 k9 g06 g6 t6 g5 g05 hI0 hG9
    repeat (refine Inv.wpL_read (v := ?_) rfl rfl (fun w' hg => ?_) (fun K hK => ?_); rotate_left; (go_simp; rfl); go_simp; refine hK _ _ ?_; clear hK K)
    refine Inv.wpL_stop ?_
    go_wp2_with fail
    have hst := linesT_step (X := usOf L) HIT.out
    go_simp
    exact ⟨⟨_, _, _, _, _, ⟨k + 1, rfl, by omega, by rw [hst, HLN.out]; exact HO9.out, G9.out⟩, rfl, rfl, rfl, rfl, by go_num⟩, by simp [RowKit.intOf]; omega⟩
  ·obtain rfl : k = M.items.length := by omega
   have HO := Lib.hid HO.out.read
   go_wp2_with fail
   go_ret
   exact ⟨_, rfl, G.out.trans GL.out, .inl ⟨HV.out, HO.out⟩⟩
end Go.Proofs.YtchpbaaabnkkkaaGreatDoor

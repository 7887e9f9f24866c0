/-
  moves.Text, exodusref23.Text.
  moves.of, Source, Duration, Link, Use.
  moves.Source, Duration, Link, Use; exodusref23.Source, Duration, Link, Use.
  exodusref23.Source, Duration, Link, Use.
-/
import Derived.Test.YtnlocdijdfclcaaGreatDoorMvb
namespace Go.Proofs.YtnlocdijdfclcaaGreatDoor
open Go.RowKit Go.Lib Lex
set_option linter.unusedVariables false
set_option linter.unusedSimpArgs false

theorem move_range {M : Mdl} {x : MvM} (h : MoveOK M x) : (x.frm = 0 ∨ (1 ≤ x.frm ∧ x.frm ≤ (M.machs.length : Int))) ∧ (x.to = 0 ∨ (1 ≤ x.to ∧ x.to ≤ (M.machs.length : Int))) ∧ ¬ (x.frm = 0 ∧ x.to = 0) := by
 obtain ⟨h1, h2, it, hit, hf, hok⟩ := h.item
 have hon := fun n (hn : it.on.contains n = true) => (rise_nodup hok.2.1).2 n (List.contains_iff_mem.1 hn)
 have hfree : ∀ n, freeI M it n = true → 1 ≤ n ∧ n ≤ (M.machs.length : Int) := fun n hn => by
  unfold freeI at hn
  simp only [Bool.and_eq_true, decide_eq_true_eq] at hn
  exact ⟨hn.1.1.1, hn.1.1.2⟩
 unfold fitsI shapeB at hf
 rw [Bool.and_eq_true] at hf
 have hs := hf.1
 split at hs
 ·rw [Bool.or_eq_true, Bool.and_eq_true, Bool.and_eq_true] at hs
  rcases hs with ⟨a, b⟩ | ⟨a, b⟩
  ·have a : x.frm = 0 := by simpa using a
   have := hfree _ b
   exact ⟨.inl a, .inr this, by omega⟩
  ·have b : x.to = 0 := by simpa using b
   have := hon _ a
   exact ⟨.inr this, .inl b, by omega⟩
 ·rw [Bool.and_eq_true] at hs
  have h1 := hon _ hs.1
  have h2 := hfree _ hs.2
  exact ⟨.inr h1, .inr h2, by omega⟩
theorem str_app (a b : List UInt8) : (⟨a.toArray⟩ : ByteArray) ++ ⟨b.toArray⟩ = ⟨(a ++ b).toArray⟩ := by
 apply ByteArray.ext
 simp
def mname (M : Mdl) (n : Int) : List UInt8 := match M.machs[(n - 1).toNat]? with
 | some x => x.name
 | none => []
def textI (M : Mdl) (x : MvM) (it : ItemM) : List UInt8 :=
 if x.frm = 0 then ((it.name ++ [58, 32]) ++ [43, 32]) ++ mname M x.to
 else if x.to = 0 then ((it.name ++ [58, 32]) ++ [45, 32]) ++ mname M x.frm
 else (((it.name ++ [58, 32]) ++ mname M x.frm) ++ [32, 45, 62, 32]) ++ mname M x.to
def IsText (M : Mdl) (x : MvM) (t : List UInt8) : Prop := (¬ MoveOK M x ∧ t = []) ∨ (MoveOK M x ∧ ∃ it, M.items[(x.item - 1).toNat]? = some it ∧ t = textI M x it)
set_option maxRecDepth 100000 in
set_option maxHeartbeats 1600000 in
theorem mv_Text (w : World) (P : Ptrs) (M : Mdl) (x : MvM) (hm : MdlAt w P M) (hf : Few M) (ht : Tab w) :
  Calls Tryz.prog 20 #[.agg (mcells P M), .agg (moveV x)] w (Ret w fun r _ => ∃ t, r = .string ⟨t.toArray⟩ ∧ IsText M x t) := by
 have HT := Lib.hid ht
 have HM0 := Lib.hid hm
 have HF := Lib.hid hf
 have B0 := Cells.new w (mcells P M) 29
 have B1 := Cells.new (w.alloc (.cells (mcells P M) 29)) (moveV x) 34
 simp only [World.size_alloc] at B1
 have m0 := mc0 B0.2 _ B1.1
 have m1 := mc1 B0.2 _ B1.1
 have m2 := mc2 B0.2 _ B1.1
 have m3 := mc3 B0.2 _ B1.1
 have m4 := mc4 B0.2 _ B1.1
 have m5 := mc5 B0.2 _ B1.1
 have m6 := mc6 B0.2 _ B1.1
 have m7 := mc7 B0.2 _ B1.1
 have m8 := mc8 B0.2 _ B1.1
 have m9 := mc9 B0.2 _ B1.1
 have m10 := mc10 B0.2 _ B1.1
 have x0 : World.cell? _ ⟨_, 0, none⟩ = some (.int .i64 x.item) := (B1.2).at 0 rfl
 have x1 : World.cell? _ ⟨_, 1, none⟩ = some (.int .i64 x.frm) := (B1.2).at 1 rfl
 have x2 : World.cell? _ ⟨_, 2, none⟩ = some (.int .i64 x.to) := (B1.2).at 2 rfl
 have H := Lib.hid (show _ ∧ _ ∧ _ from ⟨B0.1.trans B1.1, B0.2.grow B1.1, B1.2⟩)
 clear B0 B1 hm hf
 unfold mcells moveV at H m0 m1 m2 m3 m4 m5 m6 m7 m8 m9 m10 x0 x1 x2 ⊢
 go_enter Tryz.func20, Tryz.ntmps20
 go_wp2_with fail
 clear m0 m1 m2 m3 m4 m5 m6 m7 m8 m9 m10 x0 x1 x2
 generalize w.heap.size + 1 = bx at H ⊢
 generalize w.heap.size = bm at H ⊢
 generalize (w.alloc _).alloc _ = W at H ⊢
 have G := Lib.hid (show Gr w W from H.out.1)
 have TM := Lib.hid (show Cells W bm (mcells P M) from H.out.2.1)
 have TX := Lib.hid (show Cells W bx (moveV x) from H.out.2.2)
 have HM := Lib.hid (HM0.out.grow G.out)
 clear H
 refine (mv_Valid W P M x HM.out HF.out (HT.out.grow G.out)).mono ?_
 rintro _ w1 ⟨r1, rfl, g1, h⟩
 have G := Lib.hid (G.out.trans g1)
 have TM := Lib.hid (TM.out.grow g1)
 have TX := Lib.hid (TX.out.grow g1)
 have HM := Lib.hid (HM.out.grow g1)
 clear g1
 rcases h.cases with ⟨rfl, k1⟩ | ⟨rfl, k1⟩
 ·have HV := Lib.hid k1
  obtain ⟨hi1, hi2, it, hit, _, _⟩ := k1.item
  obtain ⟨r1, r2, r3⟩ := move_range k1
  clear h k1
  have HIT := Lib.hid hit
  obtain ⟨k, hk⟩ : ∃ k : Nat, x.item = (k : Int) + 1 := ⟨(x.item - 1).toNat, by omega⟩
  rw [hk, show ((k : Int) + 1 - 1).toNat = k by omega] at hit
  obtain ⟨b, o, it', hpp, hit', hc⟩ := item_at HM.out.items rfl (show k < M.items.length by omega)
  obtain rfl : it = it' := Option.some.inj (hit.symm.trans hit')
  have hfew := HF.out.1
  have hnl := (HF.out.2.2.2.2.2.1 it (List.mem_of_getElem? hit)).1
  have hlt' : (k : Int) < (M.items.length : Int) := by omega
  have hw1 : IntKind.i64.wrap ((k : Int) + 1 - 1) = (k : Int) := by rw [IntKind.wrap_i64]; omega
  have y0 := (hc _ (Gr.refl _)).1
  have m5 := mc5 TM.out _ (Gr.refl _)
  have m3 := mc3 TM.out _ (Gr.refl _)
  rw [hpp] at m5
  have x0 : World.cell? w1 ⟨bx, 0, none⟩ = some (.int .i64 x.item) := TX.out.at 0 rfl
  have x1 : World.cell? w1 ⟨bx, 1, none⟩ = some (.int .i64 x.frm) := TX.out.at 1 rfl
  have x2 : World.cell? w1 ⟨bx, 2, none⟩ = some (.int .i64 x.to) := TX.out.at 2 rfl
  rw [hk] at x0
  obtain ⟨n0, hn0⟩ : ∃ n, it.name ++ [58, 32] = n := ⟨_, rfl⟩
  have hA0 : (⟨it.name.toArray⟩ : ByteArray) ++ ⟨#[58, 32]⟩ = ⟨n0.toArray⟩ := by rw [show (⟨#[58, 32]⟩ : ByteArray) = ⟨[58, 32].toArray⟩ from rfl, str_app, hn0]
  have hz0 : ¬ 9223372036854775807 < it.name.length + 2 := by omega
  have hl0 : n0.length = it.name.length + 2 := by rw [← hn0]; simp
  clear hit hit' hc hpp hi1 hi2
  by_cases hf0 : x.frm = 0
  ·have ht0 : x.to ≠ 0 := fun h => r3 ⟨hf0, h⟩
   have ht1 := r2.resolve_left ht0
   obtain ⟨j, hj⟩ : ∃ i : Nat, x.to = (i : Int) + 1 := ⟨(x.to - 1).toNat, by omega⟩
   have hlj : j < M.machs.length := by omega
   obtain ⟨bj, oj, yj, hpj, hyj, hcj⟩ := mach_at HM.out.machs rfl hlj
   have hmj : mname M x.to = yj.name := by unfold mname; rw [hj, show (((j : Nat) : Int) + 1 - 1).toNat = j by omega, hyj]
   have hlmj := HF.out.2.2.2.2.1 yj (List.mem_of_getElem? hyj)
   have hwj : IntKind.i64.wrap (((j : Nat) : Int) + 1 - 1) = (j : Int) := by rw [IntKind.wrap_i64]; omega
   have hl'j : (j : Int) < (M.machs.length : Int) := by omega
   have hvj : IntKind.i64.wrap (j : Int) = (j : Int) := by rw [IntKind.wrap_i64]; omega
   obtain ⟨n1, hn1⟩ : ∃ n, n0 ++ [43, 32] = n := ⟨_, rfl⟩
   have hA1 : (⟨n0.toArray⟩ : ByteArray) ++ ⟨#[43, 32]⟩ = ⟨n1.toArray⟩ := by rw [show (⟨#[43, 32]⟩ : ByteArray) = ⟨[43, 32].toArray⟩ from rfl, str_app, hn1]
   have hz1 : ¬ 9223372036854775807 < n0.length + 2 := by omega
   have hl1 : n1.length = n0.length + 2 := by rw [← hn1]; simp
   obtain ⟨n2, hn2⟩ : ∃ n, n1 ++ yj.name = n := ⟨_, rfl⟩
   have hA2 : (⟨n1.toArray⟩ : ByteArray) ++ ⟨yj.name.toArray⟩ = ⟨n2.toArray⟩ := by rw [str_app, hn2]
   have hz2 : ¬ 9223372036854775807 < n1.length + yj.name.length := by omega
   have HR := Lib.hid (show textI M x it = n2 from by unfold textI; rw [if_pos hf0, hmj, hn0, hn1, hn2])
   have z0 := (hcj _ (Gr.refl _)).1
   rw [hpj] at m3
   rw [hf0] at x1
   rw [hj] at x2
   clear hn0 hn1 hn2 hyj hcj hpj hmj hf0 ht0 ht1 r1 r2 r3
   go_wp2_with fail
   try rw [Exit.noGoto_ret]
   go_ret
   exact ⟨_, rfl, G.out, n2, rfl, .inr ⟨HV.out, it, HIT.out, HR.out.symm⟩⟩
  ·have hf1 := r1.resolve_left hf0
   obtain ⟨i, hi⟩ : ∃ i : Nat, x.frm = (i : Int) + 1 := ⟨(x.frm - 1).toNat, by omega⟩
   have hli : i < M.machs.length := by omega
   obtain ⟨bi, oi, yi, hpi, hyi, hci⟩ := mach_at HM.out.machs rfl hli
   have hmi : mname M x.frm = yi.name := by unfold mname; rw [hi, show (((i : Nat) : Int) + 1 - 1).toNat = i by omega, hyi]
   have hlmi := HF.out.2.2.2.2.1 yi (List.mem_of_getElem? hyi)
   have hwi : IntKind.i64.wrap (((i : Nat) : Int) + 1 - 1) = (i : Int) := by rw [IntKind.wrap_i64]; omega
   have hl'i : (i : Int) < (M.machs.length : Int) := by omega
   have hvi : IntKind.i64.wrap (i : Int) = (i : Int) := by rw [IntKind.wrap_i64]; omega
   have e0 : (((i : Nat) : Int) + 1 == 0) = false := by simp; omega
   rw [hi] at x1
   by_cases ht0 : x.to = 0
   ·obtain ⟨n1, hn1⟩ : ∃ n, n0 ++ [45, 32] = n := ⟨_, rfl⟩
    have hA1 : (⟨n0.toArray⟩ : ByteArray) ++ ⟨#[45, 32]⟩ = ⟨n1.toArray⟩ := by rw [show (⟨#[45, 32]⟩ : ByteArray) = ⟨[45, 32].toArray⟩ from rfl, str_app, hn1]
    have hz1 : ¬ 9223372036854775807 < n0.length + 2 := by omega
    have hl1 : n1.length = n0.length + 2 := by rw [← hn1]; simp
    obtain ⟨n2, hn2⟩ : ∃ n, n1 ++ yi.name = n := ⟨_, rfl⟩
    have hA2 : (⟨n1.toArray⟩ : ByteArray) ++ ⟨yi.name.toArray⟩ = ⟨n2.toArray⟩ := by rw [str_app, hn2]
    have hz2 : ¬ 9223372036854775807 < n1.length + yi.name.length := by omega
    have HR := Lib.hid (show textI M x it = n2 from by unfold textI; rw [if_neg hf0, if_pos ht0, hmi, hn0, hn1, hn2])
    have z0 := (hci _ (Gr.refl _)).1
    rw [hpi] at m3
    rw [ht0] at x2
    clear hn0 hn1 hn2 hyi hci hpi hmi hf0 ht0 hf1 r1 r2 r3
    go_wp2_with fail
    try rw [Exit.noGoto_ret]
    go_ret
    exact ⟨_, rfl, G.out, n2, rfl, .inr ⟨HV.out, it, HIT.out, HR.out.symm⟩⟩
   ·have ht1 := r2.resolve_left ht0
    obtain ⟨j, hj⟩ : ∃ i : Nat, x.to = (i : Int) + 1 := ⟨(x.to - 1).toNat, by omega⟩
    have hlj : j < M.machs.length := by omega
    obtain ⟨bj, oj, yj, hpj, hyj, hcj⟩ := mach_at HM.out.machs rfl hlj
    have hmj : mname M x.to = yj.name := by unfold mname; rw [hj, show (((j : Nat) : Int) + 1 - 1).toNat = j by omega, hyj]
    have hlmj := HF.out.2.2.2.2.1 yj (List.mem_of_getElem? hyj)
    have hwj : IntKind.i64.wrap (((j : Nat) : Int) + 1 - 1) = (j : Int) := by rw [IntKind.wrap_i64]; omega
    have hl'j : (j : Int) < (M.machs.length : Int) := by omega
    have hvj : IntKind.i64.wrap (j : Int) = (j : Int) := by rw [IntKind.wrap_i64]; omega
    have e1 : (((j : Nat) : Int) + 1 == 0) = false := by simp; omega
    rw [hj] at x2
    obtain ⟨n1, hn1⟩ : ∃ n, n0 ++ yi.name = n := ⟨_, rfl⟩
    have hA1 : (⟨n0.toArray⟩ : ByteArray) ++ ⟨yi.name.toArray⟩ = ⟨n1.toArray⟩ := by rw [str_app, hn1]
    have hz1 : ¬ 9223372036854775807 < n0.length + yi.name.length := by omega
    have hl1 : n1.length = n0.length + yi.name.length := by rw [← hn1]; simp
    obtain ⟨n2, hn2⟩ : ∃ n, n1 ++ [32, 45, 62, 32] = n := ⟨_, rfl⟩
    have hA2 : (⟨n1.toArray⟩ : ByteArray) ++ ⟨#[32, 45, 62, 32]⟩ = ⟨n2.toArray⟩ := by rw [show (⟨#[32, 45, 62, 32]⟩ : ByteArray) = ⟨[32, 45, 62, 32].toArray⟩ from rfl, str_app, hn2]
    have hz2 : ¬ 9223372036854775807 < n1.length + 4 := by omega
    have hl2 : n2.length = n1.length + 4 := by rw [← hn2]; simp
    obtain ⟨n3, hn3⟩ : ∃ n, n2 ++ yj.name = n := ⟨_, rfl⟩
    have hA3 : (⟨n2.toArray⟩ : ByteArray) ++ ⟨yj.name.toArray⟩ = ⟨n3.toArray⟩ := by rw [str_app, hn3]
    have hz3 : ¬ 9223372036854775807 < n2.length + yj.name.length := by omega
    have HR := Lib.hid (show textI M x it = n3 from by unfold textI; rw [if_neg hf0, if_neg ht0, hmi, hmj, hn0, hn1, hn2, hn3])
    rw [hpi] at hpj
    obtain ⟨rfl, rfl⟩ : bi = bj ∧ oi = oj := by
     injection hpj with hpj
     injection hpj with h1 h2 _
     exact ⟨h1, h2⟩
    have z0 := fun w' g => (hci w' g).1
    have z1 := fun w' g => (hcj w' g).1
    rw [hpi] at m3
    have q3 := mc3 TM.out
    rw [hpi] at q3
    have q1 : ∀ w', Gr w1 w' → w'.cell? ⟨bx, 1, none⟩ = some (.int .i64 ((i : Int) + 1)) := by rw [← hi]; exact TX.out.c 1 rfl
    have q2 : ∀ w', Gr w1 w' → w'.cell? ⟨bx, 2, none⟩ = some (.int .i64 ((j : Int) + 1)) := by rw [← hj]; exact TX.out.c 2 rfl
    clear hl0 hl1 hl2 hn0 hn1 hn2 hn3 hyi hci hpi hmi hyj hcj hpj hmj hf0 ht0 hf1 ht1 r1 r2 r3
    go_wp2_with fail
    clear x0 x1 x2 m5 m3 y0
    have g0 : Gr w1 w1.drew := (Gr.refl _).drew
    refine wp_region_fast [(0, true), (1, true), (2, true), (3, true), (4, true), (5, true), (6, true), (7, true), (8, true), (9, true), (10, true), (11, true), (12, true), (13, true), (14, true), (15, true), (16, true), (17, true), (18, true), (19, true), (20, true)] (by kernel_rfl) (by kernel_rfl) rfl (by kernel_rfl) (fun _ _ d _ _ h => by cases d <;> exact h) ?_
    repeat (refine wpE_readB (v := ?_) g0 rfl rfl (fun w' hg => ?_) (fun K hK => ?_); rotate_left; (go_simp; rfl); go_simp; refine hK _ _ ?_; clear hK K)
    refine wpE_nil ?_
    go_wp2_with fail
    try rw [Exit.noGoto_ret]
    go_ret
    exact ⟨_, rfl, G.out.trans g0, n3, rfl, .inr ⟨HV.out, it, HIT.out, HR.out.symm⟩⟩
 ·have HV := Lib.hid k1
  clear h k1
  go_wp2_with fail
  try rw [Exit.noGoto_ret]
  go_ret
  exact ⟨_, rfl, G.out, [], rfl, .inl ⟨HV.out, rfl⟩⟩
end Go.Proofs.YtnlocdijdfclcaaGreatDoor
namespace Go.Proofs.YtnlocdijdfclcaaGreatDoor
open Go.RowKit Go.Lib Lex
set_option linter.unusedVariables false
set_option linter.unusedSimpArgs false

def IsVal (M : Mdl) (x : MvM) (f : ItemM → Int) (v : Int) : Prop := (¬ MoveOK M x ∧ v = 0) ∨ (MoveOK M x ∧ ∃ it, M.items[(x.item - 1).toNat]? = some it ∧ v = f it)
def PItem (w : World) (M : Mdl) (v : Value) (f : ItemM → Int) : Prop := ∃ (fn : Nat) (caps : Array Value), v = .func (.func fn) #[] caps ∧ (∀ args w, (callFunc fn args).run Tryz.prog w = .ok (.enter fn args) w) ∧
 ∀ w', Gr w w' → ∀ it ∈ M.items, ItemOK M it → Calls Tryz.prog fn (#[.agg (itV it)] ++ caps) w' (Ret w' fun r _ => r = .int .i64 (f it))
theorem PItem.grow {w w' : World} {M : Mdl} {v : Value} {f : ItemM → Int} (h : PItem w M v f) (g : Gr w w') : PItem w' M v f := by
 obtain ⟨fn, caps, h1, h2, h5⟩ := h
 exact ⟨fn, caps, h1, h2, fun w'' g' => h5 w'' (g.trans g')⟩
set_option maxRecDepth 100000 in
theorem mv_of (w : World) (P : Ptrs) (M : Mdl) (x : MvM) (v : Value) (f : ItemM → Int) (hm : MdlAt w P M) (hf : Few M) (ht : Tab w) (hv : PItem w M v f) :
  Calls Tryz.prog 42 #[.agg (mcells P M), .agg (moveV x), v] w (Ret w fun r _ => ∃ z, r = .int .i64 z ∧ IsVal M x f z) := by
 have HT := Lib.hid ht
 obtain ⟨fn, caps, rfl, he, h5⟩ := hv
 have H5 := Lib.hid h5
 clear h5 ht
 have HM0 := Lib.hid hm
 have HF := Lib.hid hf
 have B0 := Cells.new w (mcells P M) 29
 have B1 := Cells.new (w.alloc (.cells (mcells P M) 29)) (moveV x) 34
 simp only [World.size_alloc] at B1
 have m0 := mc0 B0.2 _ B1.1
 have m1 := mc1 B0.2 _ B1.1
 have m2 := mc2 B0.2 _ B1.1
 have m3 := mc3 B0.2 _ B1.1
 have m4 := mc4 B0.2 _ B1.1
 have m5 := mc5 B0.2 _ B1.1
 have m6 := mc6 B0.2 _ B1.1
 have m7 := mc7 B0.2 _ B1.1
 have m8 := mc8 B0.2 _ B1.1
 have m9 := mc9 B0.2 _ B1.1
 have m10 := mc10 B0.2 _ B1.1
 have x0 : World.cell? _ ⟨_, 0, none⟩ = some (.int .i64 x.item) := (B1.2).at 0 rfl
 have x1 : World.cell? _ ⟨_, 1, none⟩ = some (.int .i64 x.frm) := (B1.2).at 1 rfl
 have x2 : World.cell? _ ⟨_, 2, none⟩ = some (.int .i64 x.to) := (B1.2).at 2 rfl
 have H := Lib.hid (show _ ∧ _ ∧ _ from ⟨B0.1.trans B1.1, B0.2.grow B1.1, B1.2⟩)
 clear B0 B1 hm hf
 unfold mcells moveV at H m0 m1 m2 m3 m4 m5 m6 m7 m8 m9 m10 x0 x1 x2 ⊢
 go_enter Tryz.func42, Tryz.ntmps42
 go_wp2_with fail
 clear m0 m1 m2 m3 m4 m5 m6 m7 m8 m9 m10 x0 x1 x2
 generalize w.heap.size + 1 = bx at H ⊢
 generalize w.heap.size = bm at H ⊢
 generalize (w.alloc _).alloc _ = W at H ⊢
 have G := Lib.hid (show Gr w W from H.out.1)
 have TM := Lib.hid (show Cells W bm (mcells P M) from H.out.2.1)
 have TX := Lib.hid (show Cells W bx (moveV x) from H.out.2.2)
 have HM := Lib.hid (HM0.out.grow G.out)
 clear H
 refine (mv_Valid W P M x HM.out HF.out (HT.out.grow G.out)).mono ?_
 rintro _ w1 ⟨r1, rfl, g1, h⟩
 have G := Lib.hid (G.out.trans g1)
 have TM := Lib.hid (TM.out.grow g1)
 have TX := Lib.hid (TX.out.grow g1)
 have HM := Lib.hid (HM.out.grow g1)
 clear g1
 rcases h.cases with ⟨rfl, k1⟩ | ⟨rfl, k1⟩
 ·have HV := Lib.hid k1
  obtain ⟨hi1, hi2, it, hit, _, hok⟩ := k1.item
  clear h k1
  have HIT := Lib.hid hit
  have HOK := Lib.hid hok
  obtain ⟨k, hk⟩ : ∃ k : Nat, x.item = (k : Int) + 1 := ⟨(x.item - 1).toNat, by omega⟩
  rw [hk, show ((k : Int) + 1 - 1).toNat = k by omega] at hit
  obtain ⟨b, o, it', hpp, hit', hc⟩ := item_at HM.out.items rfl (show k < M.items.length by omega)
  obtain rfl : it = it' := Option.some.inj (hit.symm.trans hit')
  have hfew := HF.out.1
  have hlt' : (k : Int) < (M.items.length : Int) := by omega
  have hw1 : IntKind.i64.wrap ((k : Int) + 1 - 1) = (k : Int) := by rw [IntKind.wrap_i64]; omega
  obtain ⟨y0, y1, y2, y3, y4, y5, y6⟩ := hc _ (Gr.refl _)
  have m5 := mc5 TM.out _ (Gr.refl _)
  rw [hpp] at m5
  have x0 : World.cell? w1 ⟨bx, 0, none⟩ = some (.int .i64 x.item) := TX.out.at 0 rfl
  rw [hk] at x0
  have HMEM := Lib.hid (List.mem_of_getElem? hit)
  clear hit hit' hc hpp hi1 hi2 hok
  go_wp2_with fail
  refine (H5.out w1 G.out it HMEM.out HOK.out).mono ?_
  rintro _ w2 ⟨_, rfl, g2, rfl⟩
  have G := Lib.hid (G.out.trans g2)
  go_wp2_with fail
  go_ret
  exact ⟨_, rfl, G.out, _, rfl, .inr ⟨HV.out, it, HIT.out, rfl⟩⟩
 ·have HV := Lib.hid k1
  clear h k1
  go_wp2_with fail
  try rw [Exit.noGoto_ret]
  go_ret
  exact ⟨_, rfl, G.out, 0, rfl, .inl ⟨HV.out, rfl⟩⟩
def srcF (x : MvM) (it : ItemM) : Int := if x.to = 0 then 0 else srcM x it
def durF (x : MvM) (it : ItemM) : Int := if x.to = 0 then 1 else durM it
def linkF (M : Mdl) (x : MvM) (it : ItemM) : Int := if apartM M x it = true then linkOf M x it else 0
def useF (M : Mdl) (x : MvM) (it : ItemM) : Int := if linkF M x it = 0 then 0 else useM it
theorem src_clo (w : World) (P : Ptrs) (M : Mdl) (x : MvM) (bm bx : Nat) (hm : MdlAt w P M) (hf : Few M) (hb : Cells w bm (mcells P M)) (hx : Cells w bx (moveV x)) :
  PItem w M (.func (.func 48) #[] #[.pointer (some ⟨bx, 0, none⟩)]) (srcF x) := by
 refine ⟨_, _, rfl, enters_of Tryz.func48 (by kernel_rfl) rfl, fun W g it hin hok => ?_⟩
 have HM := Lib.hid (hm.grow g)
 have HF := Lib.hid hf
 have HOK := Lib.hid hok
 have hfew := hf.2.2.2.2.2.1 it hin
 have B := Cells.new W (itV it) 61
 have TM := Lib.hid ((hb.grow g).grow B.1)
 have TX := Lib.hid ((hx.grow g).grow B.1)
 have HI := Lib.hid (show ItemOn _ it from SlL.grow ((hm.grow g).ons it hin) B.1)
 have HM := Lib.hid (HM.out.grow B.1)
 have TI := Lib.hid B.2
 have G := Lib.hid B.1
 have i0 : World.cell? _ ⟨_, 0, none⟩ = some (.string ⟨it.name.toArray⟩) := (B.2).at 0 rfl
 have i1 : World.cell? _ ⟨_, 1, none⟩ = some (.int .i64 it.kind) := (B.2).at 1 rfl
 have i2 : World.cell? _ ⟨_, 2, none⟩ = some (.int .i64 it.count) := (B.2).at 2 rfl
 have i3 : World.cell? _ ⟨_, 3, none⟩ = some (.int .i64 it.load) := (B.2).at 3 rfl
 have i4 : World.cell? _ ⟨_, 4, none⟩ = some (.int .i64 it.size) := (B.2).at 4 rfl
 have i5 : World.cell? _ ⟨_, 5, none⟩ = some (.int .i64 it.share) := (B.2).at 5 rfl
 have i6 : World.cell? _ ⟨_, 6, none⟩ = some (.slice it.onP it.on.length it.onC) := (B.2).at 6 rfl
 have x0 : World.cell? _ ⟨_, 0, none⟩ = some (.int .i64 x.item) := (TX.out).at 0 rfl
 have x1 : World.cell? _ ⟨_, 1, none⟩ = some (.int .i64 x.frm) := (TX.out).at 1 rfl
 have x2 : World.cell? _ ⟨_, 2, none⟩ = some (.int .i64 x.to) := (TX.out).at 2 rfl
 clear hm hf hok hb hx g B hin
 show Calls _ _ #[.agg (itV it), .pointer (some ⟨bx, 0, none⟩)] _ _
 unfold itV at HI TI HM G i0 i1 i2 i3 i4 i5 i6 x0 x1 x2 TX TM ⊢
 by_cases h0 : x.to = 0
 ·rw [h0] at x2
  have HR := Lib.hid (show srcF x it = 0 from by unfold srcF; rw [if_pos h0])
  clear h0
  go_enter Tryz.func48, Tryz.ntmps48
  go_wp2_with fail
  try rw [Exit.noGoto_ret]
  go_ret
  exact ⟨_, rfl, G.out, by rw [HR.out]; rfl⟩
 ·have e0 : (x.to == 0) = false := by simpa using h0
  have HR := Lib.hid (show srcF x it = srcM x it from by unfold srcF; rw [if_neg h0])
  clear h0
  go_enter Tryz.func48, Tryz.ntmps48
  go_wp2_with fail
  refine (mv_source _ x it HI.out (.inr HOK.out.2.1.1)).mono ?_
  rintro _ w2 ⟨_, rfl, g2, rfl⟩
  have G := Lib.hid (G.out.trans g2)
  go_wp2_with fail
  go_ret
  exact ⟨_, rfl, G.out, by rw [HR.out]; rfl⟩
theorem dur_clo (w : World) (P : Ptrs) (M : Mdl) (x : MvM) (bm bx : Nat) (hm : MdlAt w P M) (hf : Few M) (hb : Cells w bm (mcells P M)) (hx : Cells w bx (moveV x)) :
  PItem w M (.func (.func 47) #[] #[.pointer (some ⟨bx, 0, none⟩)]) (durF x) := by
 refine ⟨_, _, rfl, enters_of Tryz.func47 (by kernel_rfl) rfl, fun W g it hin hok => ?_⟩
 have HM := Lib.hid (hm.grow g)
 have HF := Lib.hid hf
 have HOK := Lib.hid hok
 have hfew := hf.2.2.2.2.2.1 it hin
 have B := Cells.new W (itV it) 61
 have TM := Lib.hid ((hb.grow g).grow B.1)
 have TX := Lib.hid ((hx.grow g).grow B.1)
 have HI := Lib.hid (show ItemOn _ it from SlL.grow ((hm.grow g).ons it hin) B.1)
 have HM := Lib.hid (HM.out.grow B.1)
 have TI := Lib.hid B.2
 have G := Lib.hid B.1
 have i0 : World.cell? _ ⟨_, 0, none⟩ = some (.string ⟨it.name.toArray⟩) := (B.2).at 0 rfl
 have i1 : World.cell? _ ⟨_, 1, none⟩ = some (.int .i64 it.kind) := (B.2).at 1 rfl
 have i2 : World.cell? _ ⟨_, 2, none⟩ = some (.int .i64 it.count) := (B.2).at 2 rfl
 have i3 : World.cell? _ ⟨_, 3, none⟩ = some (.int .i64 it.load) := (B.2).at 3 rfl
 have i4 : World.cell? _ ⟨_, 4, none⟩ = some (.int .i64 it.size) := (B.2).at 4 rfl
 have i5 : World.cell? _ ⟨_, 5, none⟩ = some (.int .i64 it.share) := (B.2).at 5 rfl
 have i6 : World.cell? _ ⟨_, 6, none⟩ = some (.slice it.onP it.on.length it.onC) := (B.2).at 6 rfl
 have x0 : World.cell? _ ⟨_, 0, none⟩ = some (.int .i64 x.item) := (TX.out).at 0 rfl
 have x1 : World.cell? _ ⟨_, 1, none⟩ = some (.int .i64 x.frm) := (TX.out).at 1 rfl
 have x2 : World.cell? _ ⟨_, 2, none⟩ = some (.int .i64 x.to) := (TX.out).at 2 rfl
 clear hm hf hok hb hx g B hin
 show Calls _ _ #[.agg (itV it), .pointer (some ⟨bx, 0, none⟩)] _ _
 unfold itV at HI TI HM G i0 i1 i2 i3 i4 i5 i6 x0 x1 x2 TX TM ⊢
 by_cases h0 : x.to = 0
 ·rw [h0] at x2
  have HR := Lib.hid (show durF x it = 1 from by unfold durF; rw [if_pos h0])
  clear h0
  go_enter Tryz.func47, Tryz.ntmps47
  go_wp2_with fail
  try rw [Exit.noGoto_ret]
  go_ret
  exact ⟨_, rfl, G.out, by rw [HR.out]; rfl⟩
 ·have e0 : (x.to == 0) = false := by simpa using h0
  have HR := Lib.hid (show durF x it = durM it from by unfold durF; rw [if_neg h0])
  obtain ⟨_, _, _, hsz, hsh⟩ := HOK.out
  unfold Within at hsz hsh
  have hn0 : ¬ it.share = 0 := by omega
  have hw1 : IntKind.i64.wrap (it.size + it.share) = it.size + it.share := by rw [IntKind.wrap_i64]; omega
  have hw2 : IntKind.i64.wrap (it.size + it.share - 1) = it.size + it.share - 1 := by rw [IntKind.wrap_i64]; omega
  have HD := Lib.hid (show durM it = max 1 ((it.size + it.share - 1) / it.share) from by unfold durM; rw [Int.tdiv_eq_ediv_of_nonneg (by omega)])
  clear h0
  go_enter Tryz.func47, Tryz.ntmps47
  go_wp2_with fail

  go_ret
  exact ⟨_, rfl, G.out, by rw [HR.out, HD.out]; rfl⟩
theorem link_clo (w : World) (P : Ptrs) (M : Mdl) (x : MvM) (bm bx : Nat) (hm : MdlAt w P M) (hf : Few M) (hb : Cells w bm (mcells P M)) (hx : Cells w bx (moveV x)) :
  PItem w M (.func (.func 43) #[] #[.pointer (some ⟨bm, 0, none⟩), .pointer (some ⟨bx, 0, none⟩)]) (linkF M x) := by
 refine ⟨_, _, rfl, enters_of Tryz.func43 (by kernel_rfl) rfl, fun W g it hin hok => ?_⟩
 have HM := Lib.hid (hm.grow g)
 have HF := Lib.hid hf
 have HOK := Lib.hid hok
 have hfew := hf.2.2.2.2.2.1 it hin
 have B := Cells.new W (itV it) 61
 have TM := Lib.hid ((hb.grow g).grow B.1)
 have TX := Lib.hid ((hx.grow g).grow B.1)
 have HI := Lib.hid (show ItemOn _ it from SlL.grow ((hm.grow g).ons it hin) B.1)
 have HM := Lib.hid (HM.out.grow B.1)
 have TI := Lib.hid B.2
 have G := Lib.hid B.1
 have i0 : World.cell? _ ⟨_, 0, none⟩ = some (.string ⟨it.name.toArray⟩) := (B.2).at 0 rfl
 have i1 : World.cell? _ ⟨_, 1, none⟩ = some (.int .i64 it.kind) := (B.2).at 1 rfl
 have i2 : World.cell? _ ⟨_, 2, none⟩ = some (.int .i64 it.count) := (B.2).at 2 rfl
 have i3 : World.cell? _ ⟨_, 3, none⟩ = some (.int .i64 it.load) := (B.2).at 3 rfl
 have i4 : World.cell? _ ⟨_, 4, none⟩ = some (.int .i64 it.size) := (B.2).at 4 rfl
 have i5 : World.cell? _ ⟨_, 5, none⟩ = some (.int .i64 it.share) := (B.2).at 5 rfl
 have i6 : World.cell? _ ⟨_, 6, none⟩ = some (.slice it.onP it.on.length it.onC) := (B.2).at 6 rfl
 have x0 : World.cell? _ ⟨_, 0, none⟩ = some (.int .i64 x.item) := (TX.out).at 0 rfl
 have x1 : World.cell? _ ⟨_, 1, none⟩ = some (.int .i64 x.frm) := (TX.out).at 1 rfl
 have x2 : World.cell? _ ⟨_, 2, none⟩ = some (.int .i64 x.to) := (TX.out).at 2 rfl
 clear hm hf hok hb hx g B hin
 show Calls _ _ #[.agg (itV it), .pointer (some ⟨bm, 0, none⟩), .pointer (some ⟨bx, 0, none⟩)] _ _
 have m0 := mc0 TM.out _ (Gr.refl _)
 have m1 := mc1 TM.out _ (Gr.refl _)
 have m2 := mc2 TM.out _ (Gr.refl _)
 have m3 := mc3 TM.out _ (Gr.refl _)
 have m4 := mc4 TM.out _ (Gr.refl _)
 have m5 := mc5 TM.out _ (Gr.refl _)
 have m6 := mc6 TM.out _ (Gr.refl _)
 have m7 := mc7 TM.out _ (Gr.refl _)
 have m8 := mc8 TM.out _ (Gr.refl _)
 have m9 := mc9 TM.out _ (Gr.refl _)
 have m10 := mc10 TM.out _ (Gr.refl _)
 unfold itV at HI TI HM G i0 i1 i2 i3 i4 i5 i6 x0 x1 x2 TX TM m0 m1 m2 m3 m4 m5 m6 m7 m8 m9 m10 ⊢
 go_enter Tryz.func43, Tryz.ntmps43
 go_wp2_with fail
 clear m0 m1 m2 m3 m4 m5 m6 m7 m8 m9 m10 i0 i1 i2 i3 i4 i5 i6 x0 x1 x2
 generalize W.heap.size = bi at TI ⊢
 generalize W.alloc _ = W2 at HI TI HM G TX TM ⊢
 have HI := Lib.hid (show ItemOn W2 it from HI.out)
 refine (mv_apart W2 P M x it HM.out HF.out HI.out (.inr HOK.out.2.1.1)).mono ?_
 rintro _ w2 ⟨_, rfl, g2, rfl⟩
 have TI := Lib.hid (show Cells W2 bi (itV it) from TI.out)
 have HI := Lib.hid (SlL.grow HI.out g2)
 have G := Lib.hid (G.out.trans g2)
 have TM := Lib.hid (TM.out.grow g2)
 have TX := Lib.hid (TX.out.grow g2)
 have TI := Lib.hid (TI.out.grow g2)
 have HM := Lib.hid (HM.out.grow g2)
 clear g2
 obtain ⟨t, ht⟩ : ∃ t, apartM M x it = t := ⟨_, rfl⟩
 rw [ht]
 have HTA := Lib.hid ht
 clear ht
 cases t
 ·go_wp2_with fail
  try rw [Exit.noGoto_ret]
  go_ret
  exact ⟨_, rfl, G.out, by unfold linkF; rw [HTA.out]; rfl⟩
 ·have m0 := mc0 TM.out _ (Gr.refl _)
  have m1 := mc1 TM.out _ (Gr.refl _)
  have m2 := mc2 TM.out _ (Gr.refl _)
  have m3 := mc3 TM.out _ (Gr.refl _)
  have m4 := mc4 TM.out _ (Gr.refl _)
  have m5 := mc5 TM.out _ (Gr.refl _)
  have m6 := mc6 TM.out _ (Gr.refl _)
  have m7 := mc7 TM.out _ (Gr.refl _)
  have m8 := mc8 TM.out _ (Gr.refl _)
  have m9 := mc9 TM.out _ (Gr.refl _)
  have m10 := mc10 TM.out _ (Gr.refl _)
  have x0 : World.cell? w2 ⟨_, 0, none⟩ = some (.int .i64 x.item) := (TX.out).at 0 rfl
  have x1 : World.cell? w2 ⟨_, 1, none⟩ = some (.int .i64 x.frm) := (TX.out).at 1 rfl
  have x2 : World.cell? w2 ⟨_, 2, none⟩ = some (.int .i64 x.to) := (TX.out).at 2 rfl
  have i0 : World.cell? w2 ⟨_, 0, none⟩ = some (.string ⟨it.name.toArray⟩) := (TI.out).at 0 rfl
  have i1 : World.cell? w2 ⟨_, 1, none⟩ = some (.int .i64 it.kind) := (TI.out).at 1 rfl
  have i2 : World.cell? w2 ⟨_, 2, none⟩ = some (.int .i64 it.count) := (TI.out).at 2 rfl
  have i3 : World.cell? w2 ⟨_, 3, none⟩ = some (.int .i64 it.load) := (TI.out).at 3 rfl
  have i4 : World.cell? w2 ⟨_, 4, none⟩ = some (.int .i64 it.size) := (TI.out).at 4 rfl
  have i5 : World.cell? w2 ⟨_, 5, none⟩ = some (.int .i64 it.share) := (TI.out).at 5 rfl
  have i6 : World.cell? w2 ⟨_, 6, none⟩ = some (.slice it.onP it.on.length it.onC) := (TI.out).at 6 rfl
  go_wp2_with fail
  clear m0 m1 m2 m3 m4 m5 m6 m7 m8 m9 m10
  refine (mv_link w2 P M x it HM.out HF.out HI.out (.inr HOK.out.2.1.1)).mono ?_
  rintro _ w3 ⟨_, rfl, g3, rfl⟩
  have G := Lib.hid (G.out.trans g3)
  go_wp2_with fail
  go_ret
  exact ⟨_, rfl, G.out, by unfold linkF; rw [HTA.out]; rfl⟩
theorem use_clo (w : World) (M : Mdl) : PItem w M (.func (.func 46) #[] #[]) useM := by
 refine ⟨_, _, rfl, enters_of Tryz.func46 (by kernel_rfl) rfl, fun W g it hin hok => ?_⟩
 have B := Cells.new W (itV it) 61
 have i0 : World.cell? _ ⟨_, 0, none⟩ = some (.string ⟨it.name.toArray⟩) := (B.2).at 0 rfl
 have i1 : World.cell? _ ⟨_, 1, none⟩ = some (.int .i64 it.kind) := (B.2).at 1 rfl
 have i2 : World.cell? _ ⟨_, 2, none⟩ = some (.int .i64 it.count) := (B.2).at 2 rfl
 have i3 : World.cell? _ ⟨_, 3, none⟩ = some (.int .i64 it.load) := (B.2).at 3 rfl
 have i4 : World.cell? _ ⟨_, 4, none⟩ = some (.int .i64 it.size) := (B.2).at 4 rfl
 have i5 : World.cell? _ ⟨_, 5, none⟩ = some (.int .i64 it.share) := (B.2).at 5 rfl
 have i6 : World.cell? _ ⟨_, 6, none⟩ = some (.slice it.onP it.on.length it.onC) := (B.2).at 6 rfl
 have G := Lib.hid B.1
 clear B g
 show Calls _ _ #[.agg (itV it)] _ _
 unfold itV at *
 go_enter Tryz.func46, Tryz.ntmps46
 go_wp2_with fail
 go_ret
 exact ⟨_, rfl, G.out, rfl⟩
end Go.Proofs.YtnlocdijdfclcaaGreatDoor
namespace Go.Proofs.YtnlocdijdfclcaaGreatDoor
open Go.RowKit Go.Lib Lex
set_option linter.unusedVariables false
set_option linter.unusedSimpArgs false

theorem mv_Source (w : World) (P : Ptrs) (M : Mdl) (x : MvM) (hm : MdlAt w P M) (hf : Few M) (ht : Tab w) :
  Calls Tryz.prog 24 #[.agg (mcells P M), .agg (moveV x)] w (Ret w fun r _ => ∃ z, r = .int .i64 z ∧ IsVal M x (srcF x) z) := by
 have HT := Lib.hid ht
 clear ht
 have HM0 := Lib.hid hm
 have HF := Lib.hid hf
 have B0 := Cells.new w (mcells P M) 29
 have B1 := Cells.new (w.alloc (.cells (mcells P M) 29)) (moveV x) 34
 simp only [World.size_alloc] at B1
 have m0 := mc0 B0.2 _ B1.1
 have m1 := mc1 B0.2 _ B1.1
 have m2 := mc2 B0.2 _ B1.1
 have m3 := mc3 B0.2 _ B1.1
 have m4 := mc4 B0.2 _ B1.1
 have m5 := mc5 B0.2 _ B1.1
 have m6 := mc6 B0.2 _ B1.1
 have m7 := mc7 B0.2 _ B1.1
 have m8 := mc8 B0.2 _ B1.1
 have m9 := mc9 B0.2 _ B1.1
 have m10 := mc10 B0.2 _ B1.1
 have x0 : World.cell? _ ⟨_, 0, none⟩ = some (.int .i64 x.item) := (B1.2).at 0 rfl
 have x1 : World.cell? _ ⟨_, 1, none⟩ = some (.int .i64 x.frm) := (B1.2).at 1 rfl
 have x2 : World.cell? _ ⟨_, 2, none⟩ = some (.int .i64 x.to) := (B1.2).at 2 rfl
 have H := Lib.hid (show _ ∧ _ ∧ _ from ⟨B0.1.trans B1.1, B0.2.grow B1.1, B1.2⟩)
 clear B0 B1 hm hf
 unfold mcells moveV at H m0 m1 m2 m3 m4 m5 m6 m7 m8 m9 m10 x0 x1 x2 ⊢
 go_enter Tryz.func24, Tryz.ntmps24
 go_wp2_with fail
 clear m0 m1 m2 m3 m4 m5 m6 m7 m8 m9 m10 x0 x1 x2
 generalize w.heap.size + 1 = bx at H ⊢
 generalize w.heap.size = bm at H ⊢
 generalize (w.alloc _).alloc _ = W at H ⊢
 have G := Lib.hid (show Gr w W from H.out.1)
 have TM := Lib.hid (show Cells W bm (mcells P M) from H.out.2.1)
 have TX := Lib.hid (show Cells W bx (moveV x) from H.out.2.2)
 have HM := Lib.hid (HM0.out.grow G.out)
 clear H
 refine (mv_of W P M x _ (srcF x) HM.out HF.out (HT.out.grow G.out) (src_clo W P M x bm bx HM.out HF.out TM.out TX.out)).mono ?_
 rintro _ w1 ⟨_, rfl, g1, z, rfl, hz⟩
 have HZ := Lib.hid hz
 clear hz
 have G := Lib.hid (G.out.trans g1)
 go_wp2_with fail
 go_ret
 exact ⟨_, rfl, G.out, z, rfl, HZ.out⟩
theorem mv_Duration (w : World) (P : Ptrs) (M : Mdl) (x : MvM) (hm : MdlAt w P M) (hf : Few M) (ht : Tab w) :
  Calls Tryz.prog 23 #[.agg (mcells P M), .agg (moveV x)] w (Ret w fun r _ => ∃ z, r = .int .i64 z ∧ IsVal M x (durF x) z) := by
 have HT := Lib.hid ht
 clear ht
 have HM0 := Lib.hid hm
 have HF := Lib.hid hf
 have B0 := Cells.new w (mcells P M) 29
 have B1 := Cells.new (w.alloc (.cells (mcells P M) 29)) (moveV x) 34
 simp only [World.size_alloc] at B1
 have m0 := mc0 B0.2 _ B1.1
 have m1 := mc1 B0.2 _ B1.1
 have m2 := mc2 B0.2 _ B1.1
 have m3 := mc3 B0.2 _ B1.1
 have m4 := mc4 B0.2 _ B1.1
 have m5 := mc5 B0.2 _ B1.1
 have m6 := mc6 B0.2 _ B1.1
 have m7 := mc7 B0.2 _ B1.1
 have m8 := mc8 B0.2 _ B1.1
 have m9 := mc9 B0.2 _ B1.1
 have m10 := mc10 B0.2 _ B1.1
 have x0 : World.cell? _ ⟨_, 0, none⟩ = some (.int .i64 x.item) := (B1.2).at 0 rfl
 have x1 : World.cell? _ ⟨_, 1, none⟩ = some (.int .i64 x.frm) := (B1.2).at 1 rfl
 have x2 : World.cell? _ ⟨_, 2, none⟩ = some (.int .i64 x.to) := (B1.2).at 2 rfl
 have H := Lib.hid (show _ ∧ _ ∧ _ from ⟨B0.1.trans B1.1, B0.2.grow B1.1, B1.2⟩)
 clear B0 B1 hm hf
 unfold mcells moveV at H m0 m1 m2 m3 m4 m5 m6 m7 m8 m9 m10 x0 x1 x2 ⊢
 go_enter Tryz.func23, Tryz.ntmps23
 go_wp2_with fail
 clear m0 m1 m2 m3 m4 m5 m6 m7 m8 m9 m10 x0 x1 x2
 generalize w.heap.size + 1 = bx at H ⊢
 generalize w.heap.size = bm at H ⊢
 generalize (w.alloc _).alloc _ = W at H ⊢
 have G := Lib.hid (show Gr w W from H.out.1)
 have TM := Lib.hid (show Cells W bm (mcells P M) from H.out.2.1)
 have TX := Lib.hid (show Cells W bx (moveV x) from H.out.2.2)
 have HM := Lib.hid (HM0.out.grow G.out)
 clear H
 refine (mv_of W P M x _ (durF x) HM.out HF.out (HT.out.grow G.out) (dur_clo W P M x bm bx HM.out HF.out TM.out TX.out)).mono ?_
 rintro _ w1 ⟨_, rfl, g1, z, rfl, hz⟩
 have HZ := Lib.hid hz
 clear hz
 have G := Lib.hid (G.out.trans g1)
 go_wp2_with fail
 go_ret
 exact ⟨_, rfl, G.out, z, rfl, HZ.out⟩
theorem mv_Link (w : World) (P : Ptrs) (M : Mdl) (x : MvM) (hm : MdlAt w P M) (hf : Few M) (ht : Tab w) :
  Calls Tryz.prog 21 #[.agg (mcells P M), .agg (moveV x)] w (Ret w fun r _ => ∃ z, r = .int .i64 z ∧ IsVal M x (linkF M x) z) := by
 have HT := Lib.hid ht
 clear ht
 have HM0 := Lib.hid hm
 have HF := Lib.hid hf
 have B0 := Cells.new w (mcells P M) 29
 have B1 := Cells.new (w.alloc (.cells (mcells P M) 29)) (moveV x) 34
 simp only [World.size_alloc] at B1
 have m0 := mc0 B0.2 _ B1.1
 have m1 := mc1 B0.2 _ B1.1
 have m2 := mc2 B0.2 _ B1.1
 have m3 := mc3 B0.2 _ B1.1
 have m4 := mc4 B0.2 _ B1.1
 have m5 := mc5 B0.2 _ B1.1
 have m6 := mc6 B0.2 _ B1.1
 have m7 := mc7 B0.2 _ B1.1
 have m8 := mc8 B0.2 _ B1.1
 have m9 := mc9 B0.2 _ B1.1
 have m10 := mc10 B0.2 _ B1.1
 have x0 : World.cell? _ ⟨_, 0, none⟩ = some (.int .i64 x.item) := (B1.2).at 0 rfl
 have x1 : World.cell? _ ⟨_, 1, none⟩ = some (.int .i64 x.frm) := (B1.2).at 1 rfl
 have x2 : World.cell? _ ⟨_, 2, none⟩ = some (.int .i64 x.to) := (B1.2).at 2 rfl
 have H := Lib.hid (show _ ∧ _ ∧ _ from ⟨B0.1.trans B1.1, B0.2.grow B1.1, B1.2⟩)
 clear B0 B1 hm hf
 unfold mcells moveV at H m0 m1 m2 m3 m4 m5 m6 m7 m8 m9 m10 x0 x1 x2 ⊢
 go_enter Tryz.func21, Tryz.ntmps21
 go_wp2_with fail
 clear m0 m1 m2 m3 m4 m5 m6 m7 m8 m9 m10 x0 x1 x2
 generalize w.heap.size + 1 = bx at H ⊢
 generalize w.heap.size = bm at H ⊢
 generalize (w.alloc _).alloc _ = W at H ⊢
 have G := Lib.hid (show Gr w W from H.out.1)
 have TM := Lib.hid (show Cells W bm (mcells P M) from H.out.2.1)
 have TX := Lib.hid (show Cells W bx (moveV x) from H.out.2.2)
 have HM := Lib.hid (HM0.out.grow G.out)
 clear H
 refine (mv_of W P M x _ (linkF M x) HM.out HF.out (HT.out.grow G.out) (link_clo W P M x bm bx HM.out HF.out TM.out TX.out)).mono ?_
 rintro _ w1 ⟨_, rfl, g1, z, rfl, hz⟩
 have HZ := Lib.hid hz
 clear hz
 have G := Lib.hid (G.out.trans g1)
 go_wp2_with fail
 go_ret
 exact ⟨_, rfl, G.out, z, rfl, HZ.out⟩
theorem IsVal.zero {M : Mdl} {x : MvM} {f : ItemM → Int} (h : ¬ MoveOK M x) : IsVal M x f 0 := .inl ⟨h, rfl⟩
theorem use_zero {M : Mdl} {x : MvM} (h : IsVal M x (linkF M x) 0) : IsVal M x (useF M x) 0 := by
 rcases h with ⟨h, _⟩ | ⟨h, it, hit, hz⟩
 ·exact .inl ⟨h, rfl⟩
 ·exact .inr ⟨h, it, hit, by unfold useF; rw [if_pos hz.symm]⟩
theorem use_some {M : Mdl} {x : MvM} {z u : Int} (h : IsVal M x (linkF M x) z) (hz : ¬ z = 0) (hu : IsVal M x useM u) : IsVal M x (useF M x) u := by
 rcases h with ⟨_, h0⟩ | ⟨h, it, hit, hl⟩
 ·exact absurd h0 hz
 ·rcases hu with ⟨hn, _⟩ | ⟨_, it', hit', hu⟩
  ·exact absurd h hn
  ·rw [hit] at hit'
   injection hit' with e
   subst e
   exact .inr ⟨h, it, hit, by unfold useF; rw [if_neg (by rw [← hl]; exact hz)]; exact hu⟩
theorem mv_Use (w : World) (P : Ptrs) (M : Mdl) (x : MvM) (hm : MdlAt w P M) (hf : Few M) (ht : Tab w) :
  Calls Tryz.prog 22 #[.agg (mcells P M), .agg (moveV x)] w (Ret w fun r _ => ∃ z, r = .int .i64 z ∧ IsVal M x (useF M x) z) := by
 have HT := Lib.hid ht
 clear ht
 have HM0 := Lib.hid hm
 have HF := Lib.hid hf
 have B0 := Cells.new w (mcells P M) 29
 have B1 := Cells.new (w.alloc (.cells (mcells P M) 29)) (moveV x) 34
 simp only [World.size_alloc] at B1
 have m0 := mc0 B0.2 _ B1.1
 have m1 := mc1 B0.2 _ B1.1
 have m2 := mc2 B0.2 _ B1.1
 have m3 := mc3 B0.2 _ B1.1
 have m4 := mc4 B0.2 _ B1.1
 have m5 := mc5 B0.2 _ B1.1
 have m6 := mc6 B0.2 _ B1.1
 have m7 := mc7 B0.2 _ B1.1
 have m8 := mc8 B0.2 _ B1.1
 have m9 := mc9 B0.2 _ B1.1
 have m10 := mc10 B0.2 _ B1.1
 have x0 : World.cell? _ ⟨_, 0, none⟩ = some (.int .i64 x.item) := (B1.2).at 0 rfl
 have x1 : World.cell? _ ⟨_, 1, none⟩ = some (.int .i64 x.frm) := (B1.2).at 1 rfl
 have x2 : World.cell? _ ⟨_, 2, none⟩ = some (.int .i64 x.to) := (B1.2).at 2 rfl
 have H := Lib.hid (show _ ∧ _ ∧ _ from ⟨B0.1.trans B1.1, B0.2.grow B1.1, B1.2⟩)
 clear B0 B1 hm hf
 unfold mcells moveV at H m0 m1 m2 m3 m4 m5 m6 m7 m8 m9 m10 x0 x1 x2 ⊢
 go_enter Tryz.func22, Tryz.ntmps22
 go_wp2_with fail
 clear m0 m1 m2 m3 m4 m5 m6 m7 m8 m9 m10 x0 x1 x2
 generalize w.heap.size + 1 = bx at H ⊢
 generalize w.heap.size = bm at H ⊢
 generalize (w.alloc _).alloc _ = W at H ⊢
 have G := Lib.hid (show Gr w W from H.out.1)
 have TM := Lib.hid (show Cells W bm (mcells P M) from H.out.2.1)
 have TX := Lib.hid (show Cells W bx (moveV x) from H.out.2.2)
 have HM := Lib.hid (HM0.out.grow G.out)
 clear H
 refine (mv_Link W P M x HM.out HF.out (HT.out.grow G.out)).mono ?_
 rintro _ w1 ⟨_, rfl, g1, z, rfl, hz⟩
 have HZ := Lib.hid hz
 clear hz
 have G := Lib.hid (G.out.trans g1)
 have TM := Lib.hid (TM.out.grow g1)
 have TX := Lib.hid (TX.out.grow g1)
 have HM := Lib.hid (HM.out.grow g1)
 clear g1
 by_cases h0 : z = 0
 ·subst h0
  go_wp2_with fail
  try rw [Exit.noGoto_ret]
  go_ret
  exact ⟨_, rfl, G.out, 0, rfl, use_zero HZ.out⟩
 ·have e0 : (z == 0) = false := by simpa using h0
  have H0 := Lib.hid h0
  clear h0
  have m0 := mc0 TM.out _ (Gr.refl _)
  have m1 := mc1 TM.out _ (Gr.refl _)
  have m2 := mc2 TM.out _ (Gr.refl _)
  have m3 := mc3 TM.out _ (Gr.refl _)
  have m4 := mc4 TM.out _ (Gr.refl _)
  have m5 := mc5 TM.out _ (Gr.refl _)
  have m6 := mc6 TM.out _ (Gr.refl _)
  have m7 := mc7 TM.out _ (Gr.refl _)
  have m8 := mc8 TM.out _ (Gr.refl _)
  have m9 := mc9 TM.out _ (Gr.refl _)
  have m10 := mc10 TM.out _ (Gr.refl _)
  have x0 : World.cell? _ ⟨_, 0, none⟩ = some (.int .i64 x.item) := (TX.out).at 0 rfl
  have x1 : World.cell? _ ⟨_, 1, none⟩ = some (.int .i64 x.frm) := (TX.out).at 1 rfl
  have x2 : World.cell? _ ⟨_, 2, none⟩ = some (.int .i64 x.to) := (TX.out).at 2 rfl
  go_wp2_with fail
  clear m0 m1 m2 m3 m4 m5 m6 m7 m8 m9 m10
  refine (mv_of w1 P M x _ useM HM.out HF.out (HT.out.grow G.out) (use_clo w1 M)).mono ?_
  rintro _ w2 ⟨_, rfl, g2, u, rfl, hu⟩
  have HU := Lib.hid hu
  clear hu
  have G := Lib.hid (G.out.trans g2)
  go_wp2_with fail
  go_ret
  exact ⟨_, rfl, G.out, u, rfl, use_some HZ.out H0.out HU.out⟩
end Go.Proofs.YtnlocdijdfclcaaGreatDoor
namespace Go.Proofs.YtnlocdijdfclcaaGreatDoor
open Go.RowKit Go.Lib Lex
set_option linter.unusedVariables false
set_option linter.unusedSimpArgs false

end Go.Proofs.YtnlocdijdfclcaaGreatDoor

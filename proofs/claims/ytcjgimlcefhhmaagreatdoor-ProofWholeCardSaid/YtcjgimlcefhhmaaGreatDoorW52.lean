/- Texts: RowQ RowQWhole. -/
import Derived.Test.YtcjgimlcefhhmaaGreatDoorRows
import Derived.Test.YtcjgimlcefhhmaaGreatDoorCards
import Derived.Test.YtcjgimlcefhhmaaGreatDoorTie
import Derived.LaidMore
import Derived.Stop.Joined
import Derived.Stop.LaidErr
import Derived.SevenTiedAt
import Derived.HandedShaped
import Derived.Lay
import Derived.Shelf.Vars
import Derived.Test.YtcjgimlcefhhmaaGreatDoorW9
import Derived.Test.YtcjgimlcefhhmaaGreatDoorW15
import Derived.Test.YtcjgimlcefhhmaaGreatDoorW16
import Derived.Test.YtcjgimlcefhhmaaGreatDoorW51
set_option linter.unusedVariables false
set_option linter.unusedSimpArgs false
set_option maxRecDepth 100000
set_option maxHeartbeats 12800000
namespace Go.Proofs.YtcjgimlcefhhmaaGreatDoor
open Go.ChangeShapes Go.WideShapes Go.ChangeAt Go.RowKit Go.Joins
theorem own : ownKnob Tryz.prog.godebug = none := by kernel_rfl
theorem laidOut : laidOutB Tryz.prog = true := by kernel_rfl
def laidL : List (String × DataW Unit) := [("math/bits.deBruijn32tab", Rows.laid_math_bits_deBruijn32tab), ("math/bits.deBruijn64tab", Rows.laid_math_bits_deBruijn64tab), ("internal/strconv.uint64pow10", Rows.laid_internal_strconv_uint64pow10), ("unicode/utf8.acceptRanges", Rows.laid_unicode_utf8_acceptRanges), ("strconv.ErrRange", Rows.laid_strconv_ErrRange), ("strconv.ErrSyntax", Rows.laid_strconv_ErrSyntax), ("unicode/utf8.first", Rows.laid_unicode_utf8_first)]
theorem gPow : Tryz.prog.globalNamed "internal/strconv.uint64pow10" = some 3 := by kernel_rfl
theorem tPow : (Tryz.prog.globals[3]?).map (·.type) = some 252 := by kernel_rfl
theorem ξcG {W : World} (h : laidMetH Tryz.prog laidL W) : Tab W := by
 rw [MakeChecks.laidMetH_plain _ _ _ (by kernel_rfl)] at h
 have h2 := laidMet.tail (laidMet.tail h)
 exact Lib.tabIs_of_head (n := 20) gPow tPow Tryz.underlying252 Tryz.underlying152 (by kernel_rfl) (by kernel_rfl) h2
theorem handed {H : Type} {enc : TypeId × Value → H} {a : Assume} {C : Checked} {os : Os} {f : FuncId} {fn : Func} {s : ChangeSpec} {conds : List PathCond} {apart fresh handsOn again : Bool} {X : World → Array Value → Prop}
  (hX : ∀ (w w' : World) (args : Array Value), w.heap = w'.heap → X w args → X w' args)
  (own : ownKnob C.prog.godebug = none) (started : os.Started) (noInit : C.prog.inits.idxOf? f = none) (hfn : C.prog.funcs[f]? = some fn)
  (witness : ∃ (w : World) (tape : Tape) (i : Input), w.os = os ∧ (w.forCall tape i).Shaped C.prog ∧ i.vars = [] ∧ Input.okWide C.prog (w.forCall tape i) .any w.heap.size f i ∧
   ((s.pre enc C.prog fn conds apart (w.forCall tape i).memory i.args ∧ X (w.forCall tape i).memory i.args) ∧ sizedMet enc C.prog fn (OpenSpec.ofChange s) apart (w.forCall tape i).memory i.args) ∧ a.holds C.prog (lone (Frame.enter C.prog f i.args .normal) [] (w.forCall tape i)))
  (contract : ∀ (W : World) (base : Nat) (args : Array Value) (ds gs : List (DataW H)) (before : List MemPlace),
   (∀ (j : Nat) t v, fn.params[j]? = some t → args[j]? = some v → Value.okWide C.prog W .any base t v) →
   DataW.Whole enc C.prog fn.params.toList s.vars apart W args.toList ds gs before → (DataW.weightsEach C.prog (fn.params.toList ++ s.plain.varTypes C.prog) (ds ++ gs)).all (· ≤ reachBytes) = true → X W args → W.ShapedOpen C.prog →
   Calls C.prog f args W fun e W' => ∃ v, e = .returned v ∧ s.post enc C.prog fn apart fresh handsOn again W args v W') :
  ReturnsInHanded a C os f .any (fun w args => (s.pre enc C.prog fn conds apart w args ∧ X w args) ∧ sizedMet enc C.prog fn (OpenSpec.ofChange s) apart w args) (s.post enc C.prog fn apart fresh handsOn again) := by
 refine returnsInHanded_of_calls own started noInit witness ?_
 intro w tape i _ hsh _ hok hpre hholds
 obtain ⟨_, _, _, fn', hfn', _, _, _, _, hval⟩ := hok
 have e : fn' = fn := Option.some.inj (hfn'.symm.trans hfn)
 subst e
 obtain ⟨⟨⟨ds, gs, before, hw, hc⟩, hx⟩, hz⟩ := hpre
 have hw' := DataW.Whole.of_heap (w' := w.forCall tape i) (by rfl) hw
 refine (contract (w.forCall tape i) w.heap.size i.args ds gs before hval hw' (hz.weights hw) (hX _ _ _ (by rfl) hx) hsh).mono fun e W' ⟨v, he, hp⟩ => ?_
 subst he
 exact ChangeSpec.post_blind hp
theorem ξ6e {W : World} (h : W.ShapedOpen Tryz.prog) : ∃ m, W.cell? ⟨2, 0, none⟩ = some (.int .i64 m) :=
 Go.Proofs.cell_of_shapedOpen_int (zero := #[.int .i64 0]) (t := 3) h (of_decide_eq_true (by kernel_rfl)) (by kernel_rfl) rfl (by kernel_rfl) (by kernel_rfl) Tryz.underlying3
namespace Prf
section
variable {H : Type} {enc : TypeId × Value → H} {w : World} {r : Reach} {b0 : Nat} {v : Value} {d : DataW H} {q : List MemPlace}
theorem ξ6j (hv : Value.okWide Tryz.prog w r b0 25 v) (h : DataW.Trod enc Tryz.prog w 0 (fun _ => true) true 25 v d q) (hw : ξt 25 d) :
  ∃ (a : Option Addr) (V : List VarM) (c : Nat) (b : Option Addr) (T : List RowM) (e : Nat), v = .agg #[.slice a V.length c, .slice b T.length e] ∧ ξ06 w (.slice a V.length c) V ∧ SlL w 5 encRow (.slice b T.length e) T ∧ (∀ y ∈ V, VarI y) ∧ (∀ y ∈ T, RowR w y ∧ y.name.length ≤ 9223372036854775807) ∧ V.length ≤ 35184372088832 ∧ T.length ≤ 35184372088832 := by
 obtain ⟨cs, rfl, hsz⟩ := okWide_struct Tryz.underlying25 hv
 obtain ⟨fuel, h⟩ := h
 obtain ⟨a, V, c, b, T, e, h1, h2⟩ := ξ6g h hw
 have hcs : (Value.agg cs).cells.toList = cs.toList := rfl
 rw [hcs] at h1
 exact ⟨a, V, c, b, T, e, congrArg Value.agg (Array.ext' h1), h2⟩
theorem ξ9F (hv : Value.okWide Tryz.prog w r b0 42 v) (h : DataW.Trod enc Tryz.prog w 0 (fun _ => true) true 42 v d q) (hw : ξt 42 d) : ∃ y : RowM, v = rowV y ∧ RowR w y ∧ y.name.length ≤ 9223372036854775807 := by
 obtain ⟨cs, rfl, hsz⟩ := okWide_struct Tryz.underlying42 hv
 obtain ⟨fuel, h⟩ := h
 obtain ⟨y, h1, h2⟩ := ξ6a h hw
 have hcs : (Value.agg cs).cells.toList = cs.toList := rfl
 rw [hcs] at h1
 exact ⟨y, congrArg Value.agg (Array.ext' h1), h2⟩
theorem ξ91 {p : Option Addr} {n c : Nat} (hv : ∀ cs, v ≠ .agg cs) (h : v.cells.toList = [.slice p n c]) : v = .slice p n c := by
 cases v <;> first | (exact absurd rfl (hv _)) | (simp [Value.cells] at h; done) | (simpa [Value.cells] using h)
theorem ξ7y (hv : Value.okWide Tryz.prog w r b0 26 v) (h : DataW.Trod enc Tryz.prog w 0 (fun _ => true) true 26 v d q) (hw : ξt 26 d) :
  ∃ (p : Option Addr) (l : List ξb) (c : Nat), v = .slice p l.length c ∧ SlL w 8 encNode (.slice p l.length c) l ∧ l.length ≤ 35184372088832 ∧ ∀ y ∈ l, ξ2Y w y := by
 obtain ⟨fuel, h⟩ := h
 obtain ⟨p, l, c, h1, h2⟩ := ξ8D h hw
 refine ⟨p, l, c, ξ91 (fun cs e => ?_) h1, h2⟩
 subst e
 simp only [Value.okWide, Tryz.underlying26, Cell.okWide, Cell.ok] at hv
end
end Prf
end Go.Proofs.YtcjgimlcefhhmaaGreatDoor
namespace Go.Proofs.YtcjgimlcefhhmaaGreatDoor.proofWhole
open Go.ChangeShapes Go.WideShapes Go.ChangeAt Go.RowKit Go.Joins
theorem contract (H : Type) (enc : TypeId × Value → H) (W : World) (base : Nat) (args : Array Value) (ds gs : List (DataW H)) (before : List MemPlace) (htab : Tab W) (m : Int) (hm : W.cell? ⟨2, 0, none⟩ = some (.int .i64 m))
  (hval : ∀ (j : Nat) t v, Tryz.f6.params[j]? = some t → args[j]? = some v → Value.okWide Tryz.prog W .any base t v)
  (hW : DataW.Whole enc Tryz.prog Tryz.f6.params.toList Rows.proofWholeSpec.vars false W args.toList ds gs before)
  (hwt : (DataW.weightsEach Tryz.prog (Tryz.f6.params.toList ++ Rows.proofWholeSpec.plain.varTypes Tryz.prog) (ds ++ gs)).all (· ≤ reachBytes) = true) :
  Calls Tryz.prog 6 args W fun e W' => ∃ v, e = .returned v ∧ Rows.proofWholeSpec.post enc Tryz.prog Tryz.f6 false true false false W args v W' := by
 have hW' := hW
 obtain ⟨p, q, hA0, hV, rfl, hfz, hnd⟩ := hW
 have hA : DataW.TrodAll enc Tryz.prog W 0 (fun _ => true) true Tryz.f6.params.toList args.toList ds p := hA0
 rw [Tryz.params6] at hA hval
 obtain ⟨v0, vs0, d0, ds0, p0, q0, hargs, rfl, rfl, h0, r0⟩ := trodAll_cons hA
 obtain ⟨v1, vs1, d1, ds1, p1, q1, rfl, rfl, rfl, h1, r1⟩ := trodAll_cons r0
 obtain ⟨v2, vs2, d2, ds2, p2, q2, rfl, rfl, rfl, h2, r2⟩ := trodAll_cons r1
 obtain ⟨v3, vs3, d3, ds3, p3, q3, rfl, rfl, rfl, h3, r3⟩ := trodAll_cons r2
 obtain ⟨rfl, rfl, rfl⟩ := trodAll_nil r3
 obtain rfl : args = #[v0, v1, v2, v3] := by cases args; simp_all
 obtain ⟨rfl, rfl⟩ := trodVars_none hV
 have hlt : Prf.ξt 25 d0 ∧ Prf.ξt 26 d1 ∧ Prf.ξt 42 d2 := by
  rw [Tryz.params6] at hwt
  have hq : Rows.proofWholeSpec.plain.varTypes Tryz.prog = [] := rfl
  rw [hq] at hwt
  simp only [List.append_nil, DataW.weightsEach, List.all_append, Bool.and_eq_true] at hwt
  unfold Prf.ξt
  simp [hwt]
 obtain ⟨a0, V0, c0, e0, T0, f0, rfl, o1, o2, o3, o4, o5, o6⟩ := Prf.ξ6j (hval 0 25 v0 rfl rfl) h0 (hlt.1)
 obtain ⟨p_1, l1, c_1, rfl, n1, n2, n3⟩ := Prf.ξ7y (hval 1 26 v1 rfl rfl) h1 (hlt.2.1)
 obtain ⟨x2, rfl, m2⟩ := Prf.ξ9F (hval 2 42 v2 rfl rfl) h2 (hlt.2.2)
 obtain ⟨z3, rfl, rfl, rfl, w3⟩ := open_int Tryz.underlying5 (hval 3 5 v3 rfl rfl) h3
 clear hA0
 refine (Prf.ξ5v W a0 e0 p_1 c0 f0 V0.length T0.length l1.length c_1 V0 T0 l1 x2 z3 o1 o2 n1 rfl rfl rfl o3 (fun y hy => (o4 y hy).1) n3 o5 o6 n2 (fun y hy => (o4 y hy).2) m2.1 m2.2 (by simp [Lit.wf, IntKind.min, IntKind.max, IntKind.signed, IntKind.bits] at w3; omega) m hm htab).mono fun e W' ⟨r, he, hg, hr⟩ => ?_
 subst he
 subst hr
 have g : Below W.heap.size W W' := hg
 have b0 := Below.trod laidOut (by kernel_rfl) (of_decide_eq_true (by kernel_rfl)) h0 g (fun x hx => by simpa using hW'.lt x (by first | (simp [hx]; done) | (simp at hx; done) | (simp; exact hx)))
 have b1 := Below.trod laidOut (by kernel_rfl) (of_decide_eq_true (by kernel_rfl)) h1 g (fun x hx => by simpa using hW'.lt x (by first | (simp [hx]; done) | (simp at hx; done) | (simp; exact hx)))
 have b2 := Below.trod laidOut (by kernel_rfl) (of_decide_eq_true (by kernel_rfl)) h2 g (fun x hx => by simpa using hW'.lt x (by first | (simp [hx]; done) | (simp at hx; done) | (simp; exact hx)))
 have b3 := Below.trod laidOut (by kernel_rfl) (of_decide_eq_true (by kernel_rfl)) h3 g (fun x hx => by simpa using hW'.lt x (by first | (simp [hx]; done) | (simp at hx; done) | (simp; exact hx)))
 exact ⟨_, rfl, _, _, _, [], _, [], hW', trodAll_cons_mk (shut_bool Tryz.underlying4 _) trodAll_mk0, trodAll_cons_mk b0 (trodAll_cons_mk b1 (trodAll_cons_mk b2 (trodAll_cons_mk b3 trodAll_mk0))), rfl, Below.frame g _, fun h => Bool.noConfusion h⟩
theorem lifted (os : Os) (started : os.Started) (H : Type) (enc : TypeId × Value → H) :
  ReturnsInHanded {} Tryz.checked os 6 .any (fun w args => (Rows.proofWholeSpec.pre enc Tryz.prog Tryz.f6 [] false w args ∧ laidMetH Tryz.prog laidL w) ∧ sizedMet enc Tryz.prog Tryz.f6 (OpenSpec.ofChange Rows.proofWholeSpec) false w args)
   (Rows.proofWholeSpec.post enc Tryz.prog Tryz.f6 false true false false) := by
 refine handed (C := Tryz.checked) (X := fun w _ => laidMetH Tryz.prog laidL w) (fun _ _ _ hh h => h.of_heap hh) own started (by kernel_rfl) Tryz.func6
  (ChangeSpec.witness_shaped (enc := enc) (C := Tryz.checked) (os := os) (X := fun w _ => laidMetH Tryz.prog laidL w) false (World.laidAll Tryz.prog os laidL) #[.agg #[.slice none 0 0, .slice none 0 0], .slice none 0 0, .agg #[.string ⟨#[]⟩, .int .i64 0, .int .i64 0, .slice none 0 0, .int .i64 0], .int .u8 0] 8 (World.laidAll_os _ _ _)
   (World.shaped_of_ZipB (by kernel_rfl) (by kernel_rfl)) (by kernel_rfl) (by kernel_rfl) (by kernel_rfl)
   (by rw [MakeChecks.laidMetH_plain _ _ _ (by kernel_rfl)]; exact laidMet_laidAll _ (by kernel_rfl) (by kernel_rfl))) ?_
 intro W base args ds gs before hval hW hwt hL hS
 obtain ⟨m, hm⟩ := ξ6e hS
 exact contract H enc W base args ds gs before (ξcG hL) m hm hval hW hwt
theorem said : Rows.ProofWholeSaid :=
 OpenClaim.holds_of_wide 6 Tryz.f6 rfl rfl rfl rfl rfl rfl rfl ⟨rfl, rfl, rfl, rfl, rfl⟩ rfl rfl rfl rfl rfl (by kernel_rfl) Tryz.func6 (by kernel_rfl)
  (of_decide_eq_true (by kernel_rfl)) (by unfold Func.isWrapper; first | (rw [if_pos (by decide +kernel)]; kernel_rfl) | (rw [if_neg (by decide +kernel)]; exact ⟨rfl, rfl⟩))
  (fun os started H enc _ => lifted os started H enc)
theorem proved : Rows.ProofWholeCardSaid :=
 Claim7.holds_tied_plain_at .later [] [.data, .data, .data, .data, .sentinel, .sentinel, .pinned] true (true, "ee852439bcde034b66adee5329636392fd6f75bee2788c99fc96101d61936c8a") true
  said (fun _ h => by cases h) (by kernel_rfl) (fun _ h => by cases h) proofWhole_row_tie rfl ⟨rfl, rfl⟩ (by kernel_rfl) rfl
  (fun f fn hf hfn => by
   obtain rfl : f = 6 := Option.some.inj ((show Tryz.prog.funcNamed "exodus/exoduslaw09.ProofWhole" = some 6 by kernel_rfl).symm.trans hf) |>.symm
   obtain rfl : fn = Tryz.f6 := (Option.some.inj (Tryz.func6.symm.trans hfn)).symm
   exact ⟨by kernel_rfl, fun j t ht => by
    rw [Tryz.params6] at ht
    have h3 : t ∈ [25, 26, 42, 5] := by
     have := List.mem_of_getElem? (l := [25, 26, 42, 5]) (i := j) (by simpa using ht)
     exact this
    have h4 : ∀ t ∈ [25, 26, 42, 5], Tryz.prog.wantsStandIn t = false := by decide +kernel
    exact h4 t h3⟩)
  (by kernel_rfl)
end Go.Proofs.YtcjgimlcefhhmaaGreatDoor.proofWhole

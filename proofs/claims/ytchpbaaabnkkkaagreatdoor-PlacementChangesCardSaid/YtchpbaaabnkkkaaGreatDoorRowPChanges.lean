/-
 PlacementChanges: the row and its tied card.
-/
import Derived.Test.YtchpbaaabnkkkaaGreatDoorOpen
import Derived.Test.YtchpbaaabnkkkaaGreatDoorPmJ
import Derived.Test.YtchpbaaabnkkkaaGreatDoorOp
namespace Go.Proofs.YtchpbaaabnkkkaaGreatDoor.placementChanges
open Go.ChangeShapes Go.WideShapes Go.ChangeAt Go.RowKit Go.Joins
set_option linter.unusedVariables false
set_option linter.unusedSimpArgs false

set_option maxRecDepth 100000 in
theorem contract (H : Type) (enc : TypeId × Value → H) (W : World) (base : Nat) (args : Array Value) (ds gs : List (DataW H)) (before : List MemPlace) (htab : Tab W)
  (hval : ∀ (j : Nat) t v, Tryz.f6.params[j]? = some t → args[j]? = some v → Value.okWide Tryz.prog W .any base t v)
  (hW : DataW.Whole enc Tryz.prog Tryz.f6.params.toList Rows.placementChangesSpec.vars false W args.toList ds gs before)
  (hwt : (DataW.weightsEach Tryz.prog (Tryz.f6.params.toList ++ Rows.placementChangesSpec.plain.varTypes Tryz.prog) (ds ++ gs)).all (· ≤ reachBytes) = true) :
  Calls Tryz.prog 6 args W fun e W' => ∃ v, e = .returned v ∧ Rows.placementChangesSpec.post enc Tryz.prog Tryz.f6 false true false false W args v W' := by
 have hW' := hW
 obtain ⟨p, q, hA0, hV, rfl, hfz, hnd⟩ := hW
 have hA : DataW.TrodAll enc Tryz.prog W 0 (fun _ => true) true Tryz.f6.params.toList args.toList ds p := hA0
 rw [Tryz.params6] at hA hval
 obtain ⟨v0, vs0, d0, ds0, p0, q0, hargs, rfl, rfl, h0, r0⟩ := trodAll_cons hA
 obtain ⟨v1, vs1, d1, ds1, p1, q1, rfl, rfl, rfl, h1, r1⟩ := trodAll_cons r0
 obtain ⟨v2, vs2, d2, ds2, p2, q2, rfl, rfl, rfl, h2, r2⟩ := trodAll_cons r1
 obtain ⟨v3, vs3, d3, ds3, p3, q3, rfl, rfl, rfl, h3, r3⟩ := trodAll_cons r2
 obtain ⟨rfl, rfl, rfl⟩ := trodAll_nil r3
 obtain rfl : args = #[v0, v1, v2, v3] := by cases args; simp_all
 obtain ⟨rfl, rfl⟩ := trodVars_none hV
 have hlt : Light 34 d0 := by
  rw [Tryz.params6] at hwt
  have hq : Rows.placementChangesSpec.plain.varTypes Tryz.prog = [] := rfl
  rw [hq] at hwt
  simp only [List.append_nil, DataW.weightsEach, List.all_append, Bool.and_eq_true] at hwt
  unfold Light
  simp [hwt]
 obtain ⟨p_0, c_0, L0, rfl, m0⟩ := open_placement (hval 0 34 v0 rfl rfl) h0 (hlt)
 obtain ⟨z1, rfl, rfl, rfl, w1⟩ := open_int Tryz.underlying3 (hval 1 3 v1 rfl rfl) h1
 obtain ⟨z2, rfl, rfl, rfl, w2⟩ := open_int Tryz.underlying3 (hval 2 3 v2 rfl rfl) h2
 obtain ⟨z3, rfl, rfl, rfl, w3⟩ := open_int Tryz.underlying3 (hval 3 3 v3 rfl rfl) h3
 clear hA0
 refine (law_PlacementChanges W htab p_0 c_0 L0 m0 z1 z2 z3 (bounds_i64 w1)).mono fun e W' ⟨r, he, hg, hr⟩ => ?_
 subst he
 subst hr
 have g : Below W.heap.size W W' := hg
 have b0 := Below.trod laidOut (by kernel_rfl) (of_decide_eq_true (by kernel_rfl)) h0 g (fun x hx => by simpa using hW'.lt x (by first | (simp [hx]; done) | (simp at hx; done) | (simp; exact hx)))
 have b1 := Below.trod laidOut (by kernel_rfl) (of_decide_eq_true (by kernel_rfl)) h1 g (fun x hx => by simpa using hW'.lt x (by first | (simp [hx]; done) | (simp at hx; done) | (simp; exact hx)))
 have b2 := Below.trod laidOut (by kernel_rfl) (of_decide_eq_true (by kernel_rfl)) h2 g (fun x hx => by simpa using hW'.lt x (by first | (simp [hx]; done) | (simp at hx; done) | (simp; exact hx)))
 have b3 := Below.trod laidOut (by kernel_rfl) (of_decide_eq_true (by kernel_rfl)) h3 g (fun x hx => by simpa using hW'.lt x (by first | (simp [hx]; done) | (simp at hx; done) | (simp; exact hx)))
 exact ⟨_, rfl, _, _, _, [], _, [], hW', trodAll_cons_mk (shut_bool Tryz.underlying4 _) trodAll_mk0, trodAll_cons_mk b0 (trodAll_cons_mk b1 (trodAll_cons_mk b2 (trodAll_cons_mk b3 trodAll_mk0))), rfl, Below.frame g _, fun h => Bool.noConfusion h⟩

set_option maxRecDepth 100000 in
theorem lifted (os : Os) (started : os.Started) (H : Type) (enc : TypeId × Value → H) :
  ReturnsInHanded {} Tryz.checked os 6 .any (fun w args => (Rows.placementChangesSpec.pre enc Tryz.prog Tryz.f6 [] false w args ∧ laidMetH Tryz.prog laidL w) ∧ sizedMet enc Tryz.prog Tryz.f6 (OpenSpec.ofChange Rows.placementChangesSpec) false w args)
   (Rows.placementChangesSpec.post enc Tryz.prog Tryz.f6 false true false false) := by
 refine returnsInHanded_of_change_and (C := Tryz.checked) (X := fun w _ => laidMetH Tryz.prog laidL w) (fun _ _ _ hh h => h.of_heap hh) own started (by kernel_rfl) Tryz.func6
  (ChangeSpec.witness_shaped (enc := enc) (C := Tryz.checked) (os := os) (X := fun w _ => laidMetH Tryz.prog laidL w) false (World.doorLaid Tryz.prog 400 os) #[.agg #[.slice none 0 0], .int .i64 0, .int .i64 0, .int .i64 0] 8 rfl (World.shaped_of_RefB (by kernel_rfl) (by kernel_rfl)) (by kernel_rfl) (by kernel_rfl) (by kernel_rfl) (door_met os _)) ?_
 intro W base args ds gs before hval hW _ hwt hL _
 exact contract H enc W base args ds gs before (tab_of hL) hval hW hwt

theorem said : Rows.PlacementChangesSaid :=
 OpenClaim.holds_of_wide 6 Tryz.f6 rfl rfl rfl rfl rfl rfl rfl ⟨rfl, rfl, rfl, rfl, rfl⟩ rfl rfl rfl rfl rfl (by kernel_rfl) Tryz.func6 (by kernel_rfl)
  (of_decide_eq_true (by kernel_rfl)) (by unfold Func.isWrapper; first | (rw [if_pos (by decide +kernel)]; kernel_rfl) | (rw [if_neg (by decide +kernel)]; exact ⟨rfl, rfl⟩))
  (fun os started H enc _ => lifted os started H enc)

theorem proved : Rows.PlacementChangesCardSaid :=
 Claim7.holds_tied_plain_at .later [] [.listed, .data] true (true, "fdc3113d911dc159979603fa5e3d7c3aefe118d2acfcfe54d5c85cd17e010b02") false
  said (fun _ h => by cases h) (by kernel_rfl) (fun _ h => by cases h) placementChanges_row_tie rfl ⟨rfl, rfl⟩ (by kernel_rfl) rfl
  (fun f fn hf hfn => by
   obtain rfl : f = 6 := Option.some.inj ((show Tryz.prog.funcNamed "exodus/exoduslaw20.PlacementChanges" = some 6 by kernel_rfl).symm.trans hf) |>.symm
   obtain rfl : fn = Tryz.f6 := (Option.some.inj (Tryz.func6.symm.trans hfn)).symm
   exact ⟨by kernel_rfl, fun j t ht => by
    rw [Tryz.params6] at ht
    have h3 : t ∈ [34, 3, 3, 3] := by
     have := List.mem_of_getElem? (l := [34, 3, 3, 3]) (i := j) (by simpa using ht)
     exact this
    have h4 : ∀ t ∈ [34, 3, 3, 3], Tryz.prog.wantsStandIn t = false := by decide +kernel
    exact h4 t h3⟩)
  (by kernel_rfl)
end Go.Proofs.YtchpbaaabnkkkaaGreatDoor.placementChanges
